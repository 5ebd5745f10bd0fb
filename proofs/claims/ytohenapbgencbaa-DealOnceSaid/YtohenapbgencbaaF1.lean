/- The law DealOnce: its walk (printed by genF.py). -/
import Derived.Test.YtohenapbgencbaaE
import Derived.BigQuiet
import Derived.Deep.QuietTactic
namespace Go.Proofs.Ytohenapbgencbaa
open Go.RowKit Go.Proofs.YtohenapbgencbaaW.PrintWords Go.Proofs.YtohenapbgencbaaW.PrintLast Go.Proofs.YtohenapbgencbaaW.PrintMore Go.Proofs.Ytohenapbgencbaa.PK
set_option linter.unusedVariables false
set_option linter.unusedSimpArgs false
set_option maxHeartbeats 4000000
set_option maxRecDepth 100000
namespace Deal

theorem DealOnce (A0 : Option Addr) (c0 : Nat) (l0 : List Int) (A1 : Option Addr) (c1 : Nat) (l1 : List S32) (w : World) (hr0 : Kd.C (Kd.int .i64) w A0 l0.length l0) (hc0 : l0.length ≤ c0) (hr1 : Kd.C k32 w A1 l1.length l1) (hc1 : l1.length ≤ c1) (hm : l1.length ≤ 9223372036854775807) (hw : ∀ y ∈ l1, wfI y.f0) :
    Calls Try.prog 5 #[.slice A0 l0.length c0, .slice A1 l1.length c1] w fun e w' => e = .returned (.bool true) ∧ Below w.heap.size w w' := by
  have HR := Aside0.mk hr0; clear hr0
  have HL := Aside0.mk hr1; clear hr1
  have FW := Aside0.mk (Few A0 c0 l0 A1 c1 l1 w HR.out hc0 HL.out hc1 hm)
  have HW := Aside0.mk hw; clear hw
  go_enter Try.func5, Try.ntmps5
  go_wp2_with fail
  refine FW.out.mono ?_; rintro e w1 ⟨r, rfl, hfew, hB⟩
  have HB := Aside0.mk hB; clear hB
  cases r
  · clear hfew
    go_wp2_with fail
    refine (alive _).mono ?_; rintro e wz ⟨rfl, hz⟩
    have HBZ := Aside0.mk (Aid.bthen HB.out hz); clear hz
    go_wp2_with fail
    go_ret
    exact ⟨rfl, HBZ.out⟩
  have L0 := (hfew rfl).1
  have L1 := (hfew rfl).2
  clear hfew hm
  go_wp2_with fail
  refine (NewNow (w0 := w) A0 c0 l0 w1 HB.out (Kd.C_below HR.out HB.out) hc0 (by omega)).mono ?_; rintro e w2 ⟨g, rfl, hN, _⟩
  obtain ⟨s0, hs0⟩ : ∃ s0 : DS, s0 = ⟨l0, [], 0⟩ := ⟨_, rfl⟩
  rw [← hs0] at hN
  have HS0 := Aside0.mk (show s0.sane l0 0 ∧ s0.deeds = [] by rw [hs0]; exact ⟨sane0 l0, rfl⟩)
  have HN2 := Aside0.mk hN; clear hN HB hs0
  go_wp2_with fail
  go_loopg [26] (l1.length + 1) (fun kq v26 w' => ∃ (j : Nat), v26 = .int .i64 (j : Int) ∧ Aside0 (kq + j = l1.length + 1 ∧ j ≤ l1.length) ∧ Aside0 (∃ own, Now w w' own g (s0.runs (l1.take j))) ∧ Aside0 ((s0.runs (l1.take j)).sane l0 j))
  case atStart => exact ⟨0, rfl, ⟨by omega, by omega⟩, ⟨_, HN2.out⟩, ⟨HS0.out.1⟩⟩
  case round =>
    clear HN2
    obtain ⟨j, rfl, HK, HNE, HS⟩ := hrel
    obtain ⟨own, hN⟩ := HNE.out
    have HN := Aside0.mk hN
    clear hN HNE
    cases gk with
    | zero => exact absurd HK.out (by omega)
    | succ k1 =>
      by_cases hj : j < l1.length
      · have c14 : decide ((j : Int) < (l1.length : Int)) = true := decide_eq_true (by omega)
        have p0 : (0 : Int) ≤ (j : Int) := by omega
        have q0 : (j : Int) < (l1.length : Int) := by omega
        obtain ⟨ad, e7, x0, x1⟩ := at_T32 HL.out (j : Int) p0 q0
        cases e7
        rw [rd32 l1 j hj] at x0 x1
        simp only [Int.toNat_natCast] at x0 x1
        obtain ⟨o, ho⟩ : ∃ o, o = l1[j] := ⟨_, rfl⟩
        rw [← ho] at x0 x1
        have HOJ := Aside0.mk ho; clear ho
        have HWJ := Aside0.mk (show wfI o.f0 by rw [HOJ.out]; exact HW.out _ (List.getElem_mem hj))
        replace x0 := ((HN.out.low).cell (World.block_lt_of_cell? w _ x0)).trans x0
        replace x1 := ((HN.out.low).cell (World.block_lt_of_cell? w _ x1)).trans x1
        have ej : IntKind.i64.wrap ((j : Int) + 1) = ((j + 1 : Nat) : Int) := by rw [IntKind.wrap_i64]; omega
        go_upto_region 9 with fail
        obtain ⟨w6, hw6⟩ : ∃ w6, w6 = wr.alloc (.cells #[.int .i64 o.f0, .string o.f1] 32) := ⟨_, rfl⟩
        rw [← hw6]
        have hb6 : Below wr.heap.size wr w6 := by rw [hw6]; exact (Below.refl _ _).alloc (Nat.le_refl _) _
        have HX6 := Aside0.mk (show w6.heap[wr.heap.size]? = some (.cells #[.int .i64 o.f0, .string o.f1] 32 (0, 0)) by rw [hw6]; exact Aid.heap_new wr _)
        obtain ⟨x, hx⟩ : ∃ x, x = wr.heap.size := ⟨_, rfl⟩
        rw [← hx] at HX6 ⊢
        have z0 : w6.cell? ⟨x, 0, none⟩ = some (.int .i64 o.f0) := by rw [cell_of_row _ _ _ _ _ _ HX6.out]; rfl
        have z1 : w6.cell? ⟨x, 1, none⟩ = some (.string o.f1) := by rw [cell_of_row _ _ _ _ _ _ HX6.out]; rfl
        have HN6 := Aside0.mk (HN.out.below hb6)
        clear hb6 hw6 hx x0 x1 HN
        obtain ⟨s, hs⟩ : ∃ s, s = s0.runs (l1.take j) := ⟨_, rfl⟩
        have HRT := Aside0.mk (show s0.runs (l1.take (j + 1)) = (s.ask o.f0 o.f1).2 by rw [runs_take s0 l1 j hj, hs, HOJ.out])
        rw [← hs] at HN6 HS
        clear hs
        go_wp2_with fail
        refine (HN6.out.ask o.f0 o.f1 HWJ.out (by have := HS.out.1; omega) (by have := HS.out.2.1; omega) (by have := HS.out.2.2; rw [this]; omega)).mono ?_
        rintro e w7 ⟨rfl, hN7, _⟩
        have HN7 := Aside0.mk (show ∃ own, Now w w7 own g (s0.runs (l1.take (j + 1))) by rw [HRT.out]; exact ⟨_, hN7⟩)
        have HS7 := Aside0.mk (show (s0.runs (l1.take (j + 1))).sane l0 (j + 1) by rw [HRT.out]; exact sane_ask HS.out _ _)
        clear hN7 z0 z1 HN6 HS HX6 HRT
        go_wp2_with fail
        go_roundg k1
        case measure => omega
        case rel => exact ⟨j + 1, by first | (simp; done) | rw [ej], ⟨by have := HK.out; omega, by omega⟩, HN7, HS7⟩
      · have c14 : decide ((j : Int) < (l1.length : Int)) = false := decide_eq_false (by omega)
        have htk : l1.take j = l1 := List.take_of_length_le (by omega)
        rw [htk] at HN HS
        have HJ := Aside0.mk (show j = l1.length by have := HK.out; omega)
        clear HK htk
        go_wp2_with fail
        refine (Deeds HN.out.at_ (by have := HS.out.2.1; have := HJ.out; omega)).mono ?_; rintro e w7 ⟨v7, rfl, hR, hB⟩
        obtain ⟨sd, hsd⟩ : ∃ sd, sd = (s0.runs l1).deeds := ⟨_, rfl⟩
        rw [← hsd] at hR
        have HSD := Aside0.mk hsd; clear hsd
        obtain ⟨A7, c7, rfl, hc7, hC7⟩ := Kd.R_reads hR
        have HC7 := Aside0.mk hC7
        have HB7 := Aside0.mk (Aid.bthen HN.out.low hB)
        have HLS := Aside0.mk (show sd.length ≤ l1.length by rw [HSD.out]; have := HS.out.2.1; have := HJ.out; omega)
        clear hR hB hC7 HN HS HJ
        go_wp2_with fail
        have HA0 := Aside0.mk (show (s0.runs (l1.take 0)).deeds.length = 0 by rw [List.take_zero]; show s0.deeds.length = 0; rw [HS0.out.2]; rfl)
        go_loopg [9, 41] (l1.length + 1) (fun kq v9 v41 w' => ∃ (j : Nat), v9 = .int .i64 (((s0.runs (l1.take j)).deeds.length : Nat) : Int) ∧ v41 = .int .i64 (j : Int) ∧ Aside0 (kq + j = l1.length + 1 ∧ j ≤ l1.length) ∧ Aside0 (Kd.C k53 w' A7 sd.length sd) ∧ Aside0 (Below w.heap.size w w'))
        case atStart => exact ⟨0, by rw [HA0.out]; rfl, rfl, ⟨by omega, by omega⟩, HC7, HB7⟩
        case round =>
          clear HC7 HB7
          obtain ⟨j, rfl, rfl, HK, HC, HB⟩ := hrel
          cases gk with
          | zero => exact absurd HK.out (by omega)
          | succ k1 =>
            by_cases hj : j < l1.length
            · have p1 : (0 : Int) ≤ (j : Int) := by omega
              have p2 : (j : Int) ≤ (c1 : Int) := by omega
              have hpre := runs_split s0 l1 j
              rw [← HSD.out] at hpre
              have HPL := Aside0.mk (show (s0.runs (l1.take j)).deeds.length ≤ sd.length by obtain ⟨t, ht⟩ := hpre; rw [ht]; simp)
              clear hpre
              obtain ⟨at_, hat⟩ : ∃ at_, at_ = (s0.runs (l1.take j)).deeds.length := ⟨_, rfl⟩
              rw [← hat] at HPL ⊢
              have HAT := Aside0.mk hat; clear hat
              have c14 : decide ((j : Int) < (l1.length : Int)) = true := decide_eq_true (by omega)
              have p0 : (0 : Int) ≤ (j : Int) := by omega
              have q0 : (j : Int) < (l1.length : Int) := by omega
              obtain ⟨ad, e7, x0, x1⟩ := at_T32 HL.out (j : Int) p0 q0
              cases e7
              rw [rd32 l1 j hj] at x0 x1
              simp only [Int.toNat_natCast] at x0 x1
              obtain ⟨o, ho⟩ : ∃ o, o = l1[j] := ⟨_, rfl⟩
              rw [← ho] at x0 x1
              have HOJ := Aside0.mk ho; clear ho
              have HWJ := Aside0.mk (show wfI o.f0 by rw [HOJ.out]; exact HW.out _ (List.getElem_mem hj))
              replace x0 := (HB.out.cell (World.block_lt_of_cell? w _ x0)).trans x0
              replace x1 := (HB.out.cell (World.block_lt_of_cell? w _ x1)).trans x1
              have ej : IntKind.i64.wrap ((j : Int) + 1) = ((j + 1 : Nat) : Int) := by rw [IntKind.wrap_i64]; omega
              go_upto_region 16 with fail
              obtain ⟨w6, hw6⟩ : ∃ w6, w6 = wr.alloc (.cells #[.int .i64 o.f0, .string o.f1] 32) := ⟨_, rfl⟩
              rw [← hw6]
              have hb6 : Below wr.heap.size wr w6 := by rw [hw6]; exact (Below.refl _ _).alloc (Nat.le_refl _) _
              have HX6 := Aside0.mk (show w6.heap[wr.heap.size]? = some (.cells #[.int .i64 o.f0, .string o.f1] 32 (0, 0)) by rw [hw6]; exact Aid.heap_new wr _)
              obtain ⟨x, hx⟩ : ∃ x, x = wr.heap.size := ⟨_, rfl⟩
              rw [← hx] at HX6 ⊢
              have z0 : w6.cell? ⟨x, 0, none⟩ = some (.int .i64 o.f0) := by rw [cell_of_row _ _ _ _ _ _ HX6.out]; rfl
              have z1 : w6.cell? ⟨x, 1, none⟩ = some (.string o.f1) := by rw [cell_of_row _ _ _ _ _ _ HX6.out]; rfl
              have HC6 := Aside0.mk (Kd.C_below HC.out hb6)
              have HB6 := Aside0.mk (Aid.bthen HB.out hb6)
              clear hb6 hw6 hx x0 x1 HC HB z0 z1
              go_upto_region 18 with fail
              go_loopg [12, 50] (j + 1) (fun kz v12 v50 w' => ∃ (i : Nat) (bb : Bool), v12 = .bool bb ∧ v50 = .int .i64 (i : Int) ∧ Aside0 (kz + i = j + 1 ∧ i ≤ j) ∧ Aside0 (bb = newB (l1.take i) o.f0) ∧ Aside0 (Kd.C k53 w' A7 sd.length sd) ∧ Aside0 (w'.heap[x]? = some (.cells #[.int .i64 o.f0, .string o.f1] 32 (0, 0))) ∧ Aside0 (Below w.heap.size w w'))
              case atStart => exact ⟨0, true, rfl, rfl, ⟨by omega, by omega⟩, ⟨by rw [List.take_zero]; rfl⟩, HC6, HX6, HB6⟩
              case round =>
                clear HC6 HX6 HB6
                obtain ⟨i, bb, rfl, rfl, HKI, HBB, HC, HX, HB⟩ := hrel
                cases gk with
                | zero => exact absurd HKI.out (by omega)
                | succ k2 =>
                  by_cases hi : i < j
                  · have c15 : decide ((i : Int) < (j : Int)) = true := decide_eq_true (by omega)
                    have p0' : (0 : Int) ≤ (i : Int) := by omega
                    have q0' : (i : Int) < (j : Int) := by omega
                    have hil : i < l1.length := by omega
                    obtain ⟨ad2, e7, y0, y1⟩ := at_T32 HL.out (i : Int) p0' (by omega)
                    cases e7
                    rw [rd32 l1 i hil] at y0 y1
                    simp only [Int.toNat_natCast] at y0 y1
                    obtain ⟨o2, ho2⟩ : ∃ o2, o2 = l1[i] := ⟨_, rfl⟩
                    rw [← ho2] at y0 y1
                    replace y0 := (HB.out.cell (World.block_lt_of_cell? w _ y0)).trans y0
                    replace y1 := (HB.out.cell (World.block_lt_of_cell? w _ y1)).trans y1
                    have ei : IntKind.i64.wrap ((i : Int) + 1) = ((i + 1 : Nat) : Int) := by rw [IntKind.wrap_i64]; omega
                    obtain ⟨cc, hcc⟩ : ∃ cc, cc = (o2.f0 != o.f0) := ⟨_, rfl⟩
                    have HNB := Aside0.mk (show newB (l1.take (i + 1)) o.f0 = (bb && cc) by rw [newB_take l1 i hil, ← HBB.out, hcc, ho2])
                    have HCC := Aside0.mk hcc
                    clear ho2 hcc
                    go_upto_region 20 with fail
                    obtain ⟨w7, hw7⟩ : ∃ w7, w7 = wr.alloc (.cells #[.int .i64 o2.f0, .string o2.f1] 32) := ⟨_, rfl⟩
                    rw [← hw7]
                    have hb7 : Below wr.heap.size wr w7 := by rw [hw7]; exact (Below.refl _ _).alloc (Nat.le_refl _) _
                    have hx7 : w7.heap[wr.heap.size]? = some (.cells #[.int .i64 o2.f0, .string o2.f1] 32 (0, 0)) := by rw [hw7]; exact Aid.heap_new wr _
                    have HX7 := Aside0.mk ((hb7.block _ (blk_lt HX.out)).trans HX.out)
                    have HC7 := Aside0.mk (Kd.C_below HC.out hb7)
                    have HB7 := Aside0.mk (Aid.bthen HB.out hb7)
                    have z2 : w7.cell? ⟨wr.heap.size, 0, none⟩ = some (.int .i64 o2.f0) := by rw [cell_of_row _ _ _ _ _ _ hx7]; rfl
                    have z0 : w7.cell? ⟨x, 0, none⟩ = some (.int .i64 o.f0) := by rw [cell_of_row _ _ _ _ _ _ HX7.out]; rfl
                    have hcc := HCC.out.symm
                    clear hw7 hb7 hx7 y0 y1 HC HX HB HCC
                    cases bb
                    all_goals
                      go_wp2_with fail
                      go_roundg k2
                      case measure => omega
                      case rel => exact ⟨i + 1, _, rfl, by first | (simp; done) | rw [ei], ⟨by have := HKI.out; omega, by omega⟩, ⟨by rw [HNB.out]; rfl⟩, HC7, HX7, HB7⟩
                  · have c15 : decide ((i : Int) < (j : Int)) = false := decide_eq_false (by omega)
                    obtain rfl : i = j := by have := HKI.out; omega
                    clear HKI hi p0 q0
                    cases bb
                    · have HKN := Aside0.mk (show ∃ b, known (s0.runs (l1.take i)).deeds l1[i].f0 = some b by
                        cases hk : known (s0.runs (l1.take i)).deeds l1[i].f0 with
                        | some b => exact ⟨b, rfl⟩
                        | none =>
                          have := (newB_iff _ _).2 ((known_run s0 HS0.out.2 (l1.take i) l1[i].f0).1 hk)
                          rw [← HOJ.out, ← HBB.out] at this
                          cases this)
                      have HNX := Aside0.mk (show (s0.runs (l1.take (i + 1))).deeds.length = at_ by obtain ⟨b, hb⟩ := HKN.out; rw [again_there s0 l1 i hj b hb, HAT.out])
                      go_wp2_with fail
                      go_roundg k1
                      case measure => omega
                      case rel => exact ⟨i + 1, by rw [HNX.out], by first | (simp; done) | rw [ej], ⟨by have := HK.out; omega, by omega⟩, HC, HB⟩
                    · have hkn : known (s0.runs (l1.take i)).deeds l1[i].f0 = none := (known_run s0 HS0.out.2 (l1.take i) l1[i].f0).2 ((newB_iff _ _).1 (by rw [← HOJ.out]; exact HBB.out.symm))
                      obtain ⟨hd, h1, h2, h3⟩ := first_there s0 l1 i hj hkn
                      have HNX := Aside0.mk (show (s0.runs (l1.take (i + 1))).deeds.length = at_ + 1 by rw [HAT.out]; exact h3)
                      have hd2 : at_ < sd.length := by rw [HAT.out, HSD.out]; exact hd
                      have e1 : (sd[at_]'hd2).f0 = o.f0 := by rw [HOJ.out, ← h1]; congr 1; congr 1; exact HSD.out; exact HAT.out
                      have e2 : (sd[at_]'hd2).f1 = o.f1 := by rw [HOJ.out, ← h2]; congr 1; congr 1; exact HSD.out; exact HAT.out
                      have p0' : (0 : Int) ≤ (at_ : Int) := by omega
                      have q0' : (at_ : Int) < (sd.length : Int) := by omega
                      obtain ⟨ad3, e7, y0, y1, y2⟩ := at_T53 HC.out (at_ : Int) p0' q0'
                      cases e7
                      rw [rd53 sd at_ hd2] at y0 y1 y2
                      rw [e1] at y0
                      rw [e2] at y1
                      simp only [Int.toNat_natCast] at y0 y1 y2
                      have z0 : wr.cell? ⟨x, 0, none⟩ = some (.int .i64 o.f0) := by rw [cell_of_row _ _ _ _ _ _ HX.out]; rfl
                      have z1 : wr.cell? ⟨x, 1, none⟩ = some (.string o.f1) := by rw [cell_of_row _ _ _ _ _ _ HX.out]; rfl
                      have c16 : decide ((at_ : Int) ≥ (sd.length : Int)) = false := decide_eq_false (by omega)
                      have c17 : decide (sd.length ≤ at_) = false := decide_eq_false (by omega)
                      have ea : IntKind.i64.wrap ((at_ : Int) + 1) = ((at_ + 1 : Nat) : Int) := by rw [IntKind.wrap_i64]; have := HLS.out; omega
                      clear hkn hd h1 h2 h3 e1 e2
                      go_wp2_with fail
                      go_quiet (fail)
                      have HCn := Aside0.mk (Kd.C_drewN HC.out nq)
                      have HBn := Aside0.mk (pw_below_drewN HB.out nq)
                      go_wp2_with fail
                      go_roundg k1
                      case measure => omega
                      case rel => exact ⟨i + 1, by rw [HNX.out]; first | (simp; done) | rw [ea], by first | (simp; done) | rw [ej], ⟨by have := HK.out; omega, by omega⟩, HCn, HBn⟩
            · have c14 : decide ((j : Int) < (l1.length : Int)) = false := decide_eq_false (by omega)
              have htk : l1.take j = l1 := List.take_of_length_le (by omega)
              rw [htk, ← HSD.out]
              clear HK htk
              go_wp2_with fail
              refine (alive _).mono ?_; rintro e wz ⟨rfl, hz⟩
              have HBZ := Aside0.mk (Aid.bthen HB.out hz); clear hz
              go_wp2_with fail
              go_ret
              exact ⟨rfl, HBZ.out⟩
end Deal
end Go.Proofs.Ytohenapbgencbaa

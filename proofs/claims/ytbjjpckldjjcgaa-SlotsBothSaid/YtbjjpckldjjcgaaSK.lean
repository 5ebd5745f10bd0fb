/- The law SlotsBoth: its walk. -/
import Derived.Test.YtbjjpckldjjcgaaSJ
namespace Go.Proofs.Ytbjjpckldjjcgaa
open Go.RowKit Go.Proofs.YtbjjpckldjjcgaaW.PrintWords Go.Proofs.YtbjjpckldjjcgaaW.PrintLast Go.Proofs.YtbjjpckldjjcgaaW.PrintMore Go.Proofs.Ytbjjpckldjjcgaa.PK
set_option linter.unusedVariables false
set_option linter.unusedSimpArgs false
set_option maxHeartbeats 4000000
set_option maxRecDepth 100000
namespace Disk
namespace Slots
theorem SlotsBoth.no (A : Option Addr) (c : Nat) (l : List Int) (A1 : Option Addr) (c1 : Nat) (x : List Int) (A2 : Option Addr) (c2 : Nat) (y : List Int) (w : World) (hr : Kd.C (Kd.int .u8) w A l.length l) (hc : l.length ≤ c) (h : ¬ good l) :
    Calls Try.prog 5 #[.slice A l.length c, .slice A1 x.length c1, .slice A2 y.length c2] w fun e w' => e = .returned (.bool true) ∧ Below w.heap.size w w' := by
  have HM := Aside0.mk (Made.none A c l w hr hc h)
  clear h hr hc
  go_enter Try.func5, Try.ntmps5
  go_wp2_with fail
  refine HM.out.mono ?_; rintro e w1 ⟨rfl, hB1⟩
  have HB1 := Aside0.mk hB1
  clear HM hB1
  go_wp2_with fail
  refine (alive _).mono ?_; rintro e w2 ⟨rfl, hB2⟩
  have HB2 := Aside0.mk (Aid.bthen HB1.out hB2)
  clear hB2 HB1
  go_wp2_with fail
  go_ret
  exact ⟨rfl, HB2.out⟩
theorem SlotsBoth.many (A : Option Addr) (c : Nat) (l : List Int) (A1 : Option Addr) (c1 : Nat) (x : List Int) (A2 : Option Addr) (c2 : Nat) (y : List Int) (w : World) (hr : Kd.C (Kd.int .u8) w A l.length l) (hc : l.length ≤ c) (h : good l) (ho : Crc.okb l = true)
    (hq : ¬ (x.length ≤ room (l.length / 16) ∧ y.length ≤ room (l.length / 16) ∧ l.length ≤ 5000)) :
    Calls Try.prog 5 #[.slice A l.length c, .slice A1 x.length c1, .slice A2 y.length c2] w fun e w' => e = .returned (.bool true) ∧ Below w.heap.size w w' := by
  have HM := Aside0.mk (Made.some A c l w hr hc h ho)
  have HC := Aside0.mk hr
  have HF := Aside0.mk (fun W h bb hbb => FewNil A c l W h hc bb hbb)
  have h5 : ¬ l.length ≤ 5000 → false = decide (l.length ≤ 5000) := fun h => (decide_eq_false h).symm
  obtain ⟨n, hn⟩ : ∃ n, n = l.length / 16 := ⟨_, rfl⟩
  rw [← hn] at HM hq
  clear h hr hc ho hn
  go_enter Try.func5, Try.ntmps5
  go_wp2_with fail
  refine HM.out.mono ?_; rintro e w1 ⟨s, g, b, rfl, hS, h1, h2, h3, hB1⟩
  have HB1 := Aside0.mk hB1; have HS1 := Aside0.mk hS
  clear HM hB1 hS h1 h2 h3
  by_cases hx : x.length ≤ room n
  · by_cases hy : y.length ≤ room n
    · have h6 : ¬ l.length ≤ 5000 := fun h => hq ⟨hx, hy, h⟩
      have h7 := Aside0.mk (h5 h6)
      have hx' : decide (room n < x.length) = false := decide_eq_false (by omega)
      have hy' : decide (room n < y.length) = false := decide_eq_false (by omega)
      clear hq hx hy h6 h5
      go_wp2_with fail
      refine (Room HS1.out).mono ?_; rintro e w2 ⟨rfl, hd2⟩; have hB2 := hd2.below; clear hd2
      have HB2 := Aside0.mk (Aid.bthen HB1.out hB2); have HS2 := Aside0.mk (HS1.out.below hB2)
      clear HS1 HB1 hB2
      go_wp2_with fail
      refine (Room HS2.out).mono ?_; rintro e w3 ⟨rfl, hd3⟩; have hB3 := hd3.below; clear hd3
      have HB3 := Aside0.mk (Aid.bthen HB2.out hB3)
      clear HS2 HB2 hB3
      go_wp2_with fail
      refine (HF.out _ (Kd.C_below HC.out HB3.out) false h7.out).mono ?_; rintro e w4 ⟨rfl, hB4⟩
      have HB4 := Aside0.mk (Aid.bthen HB3.out hB4)
      clear HB3 hB4
      go_wp2_with fail
      refine (alive _).mono ?_; rintro e w5 ⟨rfl, hB5⟩
      have HB5 := Aside0.mk (Aid.bthen HB4.out hB5)
      clear hB5 HB4
      go_wp2_with fail
      go_ret
      exact ⟨rfl, HB5.out⟩
    · have hx' : decide (room n < x.length) = false := decide_eq_false (by omega)
      have hy' : decide (room n < y.length) = true := decide_eq_true (by omega)
      clear hq hx hy h5
      go_wp2_with fail
      refine (Room HS1.out).mono ?_; rintro e w2 ⟨rfl, hd2⟩; have hB2 := hd2.below; clear hd2
      have HB2 := Aside0.mk (Aid.bthen HB1.out hB2); have HS2 := Aside0.mk (HS1.out.below hB2)
      clear HS1 HB1 hB2
      go_wp2_with fail
      refine (Room HS2.out).mono ?_; rintro e w3 ⟨rfl, hd3⟩; have hB3 := hd3.below; clear hd3
      have HB3 := Aside0.mk (Aid.bthen HB2.out hB3)
      clear HS2 HB2 hB3
      go_wp2_with fail
      refine (alive _).mono ?_; rintro e w5 ⟨rfl, hB5⟩
      have HB5 := Aside0.mk (Aid.bthen HB3.out hB5)
      clear hB5 HB3
      go_wp2_with fail
      go_ret
      exact ⟨rfl, HB5.out⟩
  · have hx' : decide (room n < x.length) = true := decide_eq_true (by omega)
    clear hq hx h5
    go_wp2_with fail
    refine (Room HS1.out).mono ?_; rintro e w2 ⟨rfl, hd2⟩; have hB2 := hd2.below; clear hd2
    have HB2 := Aside0.mk (Aid.bthen HB1.out hB2)
    clear HS1 HB1 hB2
    go_wp2_with fail
    refine (alive _).mono ?_; rintro e w5 ⟨rfl, hB5⟩
    have HB5 := Aside0.mk (Aid.bthen HB2.out hB5)
    clear hB5 HB2
    go_wp2_with fail
    go_ret
    exact ⟨rfl, HB5.out⟩
theorem SlotsBoth.yes (A : Option Addr) (c : Nat) (l : List Int) (A1 : Option Addr) (c1 : Nat) (x : List Int) (A2 : Option Addr) (c2 : Nat) (y : List Int) (w : World) (hr : Kd.C (Kd.int .u8) w A l.length l) (hc : l.length ≤ c) (h : good l) (ho : Crc.okb l = true)
    (hr1 : Kd.C (Kd.int .u8) w A1 x.length x) (hc1 : x.length ≤ c1) (hox : Crc.okb x = true) (hr2 : Kd.C (Kd.int .u8) w A2 y.length y) (hc2 : y.length ≤ c2) (hoy : Crc.okb y = true)
    (hx : x.length ≤ room (l.length / 16)) (hy : y.length ≤ room (l.length / 16)) (h5 : l.length ≤ 5000) :
    Calls Try.prog 5 #[.slice A l.length c, .slice A1 x.length c1, .slice A2 y.length c2] w fun e w' => e = .returned (.bool true) ∧ Below w.heap.size w w' := by
  have HM := Aside0.mk (Made.some A c l w hr hc h ho)
  have HC := Aside0.mk hr; have HC1 := Aside0.mk hr1; have HC2 := Aside0.mk hr2
  have HF := Aside0.mk (fun W h => FewNil A c l W h hc true (decide_eq_true h5).symm)
  obtain ⟨n, hn1, hn2, hn3, hn4⟩ := good_n h
  rw [hn4] at HM hx hy
  have h2048 : room n ≤ 2048 := by unfold room; omega
  obtain ⟨T1, hT1⟩ : ∃ T, T = (save n ⟨l, 0, false, 0⟩ 7 x).2 := ⟨_, rfl⟩
  obtain ⟨T2, hT2⟩ : ∃ T, T = (save n T1 8 y).2 := ⟨_, rfl⟩
  obtain ⟨T3, hT3⟩ : ∃ T, T = (save n T2 9 y).2 := ⟨_, rfl⟩
  obtain ⟨a1, b1, d1, e1, f1, g1⟩ := whole (s := ⟨l, 0, false, 0⟩) (d := 0) (num := 7) (by decide) (by decide) hn3 hn1 hx hox rfl (by unfold St.ok; simp)
  rw [← hT1] at b1 d1 e1 f1 g1
  obtain ⟨a2, b2, d2, e2, f2, g2⟩ := whole (s := T1) (num := 8) (by decide) (by decide) hn3 e1 hy hoy b1 d1
  rw [← hT2] at b2 d2 e2 f2 g2
  obtain ⟨a3, b3, d3, e3, f3, g3⟩ := whole (s := T2) (num := 9) (by decide) (by decide) hn3 e2 hy hoy b2 d2
  rw [← hT3] at b3 d3 e3 f3 g3
  have HA1 := Aside0.mk (show _ ∧ T1 = _ ∧ T1.ok 900000 from ⟨a1, hT1, St.ok_le d1 (by decide)⟩)
  have HA2 := Aside0.mk (show _ ∧ T2 = _ ∧ T2.ok 900000 from ⟨a2, hT2, St.ok_le d2 (by decide)⟩)
  have HA3 := Aside0.mk (show _ ∧ T3 = _ from ⟨a3, hT3⟩)
  have z1 : slotOf n T2.db 1 = (7, x, true) := (g2 1 (by decide) (by decide)).trans f1
  have z0 : slotOf n T2.db 0 = (8, y, true) := f2
  have v1 : slotOf n T3.db 1 = (9, y, true) := f3
  have v0 : slotOf n T3.db 0 = (8, y, true) := (g3 0 (by decide) (by decide)).trans f2
  have vl : lastOf n T3.db = (9, y, 0) := by rw [lastOf_ref, v1, v0]; rfl
  have HZ := Aside0.mk (show _ ∧ _ ∧ _ ∧ _ from ⟨z1, z0, v1, vl⟩)
  have HG := Aside0.mk (show x.length ≤ c1 ∧ y.length ≤ c2 ∧ Crc.okb x = true ∧ Crc.okb y = true ∧ x.length ≤ 100000 ∧ y.length ≤ 100000 from ⟨hc1, hc2, hox, hoy, by omega, by omega⟩)
  have hx' : decide (room n < x.length) = false := decide_eq_false (by omega)
  have hy' : decide (room n < y.length) = false := decide_eq_false (by omega)
  clear hr hr1 hr2 hc hc1 hc2 h ho hox hoy hx hy h5 hn1 hn2 hn3 hn4 h2048 hT1 hT2 hT3 a1 b1 d1 e1 f1 g1 a2 b2 d2 e2 f2 g2 a3 b3 d3 e3 f3 g3 z1 z0 v1 v0 vl
  go_enter Try.func5, Try.ntmps5
  go_wp2_with fail
  refine HM.out.mono ?_; rintro e w1 ⟨s, g, b, rfl, hS, h1, h2, h3, hB1⟩
  have HB1 := Aside0.mk hB1; have HS1 := Aside0.mk hS; have HGB := Aside0.mk (show w.heap.size ≤ g ∧ w.heap.size ≤ b from ⟨h2, h3⟩)
  clear HM hB1 hS h1 h2 h3
  go_wp2_with fail
  refine (Room HS1.out).mono ?_; rintro e w2 ⟨rfl, hd2⟩; have hB2 := hd2.below; clear hd2
  have HB2 := Aside0.mk (Aid.bthen HB1.out hB2); have HS2 := Aside0.mk (HS1.out.below hB2)
  clear HS1 HB1 hB2
  go_wp2_with fail
  refine (Room HS2.out).mono ?_; rintro e w3 ⟨rfl, hd3⟩; have hB3 := hd3.below; clear hd3
  have HB3 := Aside0.mk (Aid.bthen HB2.out hB3); have HS3 := Aside0.mk (HS2.out.below hB3)
  clear HS2 HB2 hB3
  go_wp2_with fail
  refine (HF.out _ (Kd.C_below HC.out HB3.out)).mono ?_; rintro e w4 ⟨rfl, hB4⟩
  have HB4 := Aside0.mk (Aid.bthen HB3.out hB4); have HS4 := Aside0.mk (HS3.out.below hB4)
  clear HB3 HS3 hB4 HF
  go_wp2_with fail
  refine (SaveL 7 7 rfl _ c1 x rfl A1 HS4.out (by decide) (Kd.C_below HC1.out HB4.out) HG.out.1 HG.out.2.2.1 (by unfold St.ok; simp)).mono ?_; rintro e w5 ⟨rfl, hS5, hO5⟩
  rw [← HA1.out.2.1] at hS5
  rw [HA1.out.1]
  have HS5 := Aside0.mk hS5
  have HB5 := Aside0.mk (HB4.out.trans (hO5.low _ HGB.out.1 HGB.out.2 HB4.out.size))
  clear hS5 hO5 HB4 HS4
  go_wp2_with fail
  refine (SaveL 8 8 rfl _ c2 y rfl A2 HS5.out (by decide) (Kd.C_below HC2.out HB5.out) HG.out.2.1 HG.out.2.2.2.1 HA1.out.2.2).mono ?_; rintro e w6 ⟨rfl, hS6, hO6⟩
  rw [← HA2.out.2.1] at hS6
  rw [HA2.out.1]
  have HS6 := Aside0.mk hS6
  have HB6 := Aside0.mk (HB5.out.trans (hO6.low _ HGB.out.1 HGB.out.2 HB5.out.size))
  clear hS6 hO6 HB5 HS5
  go_wp2_with fail
  refine (Slot HS6.out 1).mono ?_; intro e w7 h7
  rw [HZ.out.1] at h7
  obtain ⟨A7, c7, rfl, hc7, hC7, hB7⟩ := told_r h7
  have HC7 := Aside0.mk hC7; have HB7 := Aside0.mk (Aid.bthen HB6.out hB7); have HS7 := Aside0.mk (HS6.out.below hB7)
  clear h7 hC7 hB7 HS6 HB6
  go_wp2_with fail
  refine (Slot HS7.out 0).mono ?_; intro e w8 h8
  rw [HZ.out.2.1] at h8
  obtain ⟨A8, c8, rfl, hc8, hC8, hB8⟩ := told_r h8
  have HC8 := Aside0.mk hC8; have HB8 := Aside0.mk (Aid.bthen HB7.out hB8); have HS8 := Aside0.mk (HS7.out.below hB8)
  have HC7b := Aside0.mk (Kd.C_below HC7.out hB8)
  clear h8 hC8 hB8 HS7 HB7 HC7
  go_wp2_with fail
  refine (SameRows A7 x.length c7 A1 x.length c1 x _ rfl rfl HC7b.out hc7 (Kd.C_below HC1.out HB8.out) HG.out.1 HG.out.2.2.2.2.1).mono ?_; rintro e w9 ⟨rfl, hd9⟩; have hB9 := hd9.below; clear hd9
  have HB9 := Aside0.mk (Aid.bthen HB8.out hB9); have HS9 := Aside0.mk (HS8.out.below hB9); have HC9 := Aside0.mk (Kd.C_below HC8.out hB9)
  clear HB8 HS8 HC8 HC7b hB9
  go_wp2_with fail
  refine (SameRows A8 y.length c8 A2 y.length c2 y _ rfl rfl HC9.out hc8 (Kd.C_below HC2.out HB9.out) HG.out.2.1 HG.out.2.2.2.2.2).mono ?_; rintro e w10 ⟨rfl, hd10⟩; have hB10 := hd10.below; clear hd10
  have HB10 := Aside0.mk (Aid.bthen HB9.out hB10); have HS10 := Aside0.mk (HS9.out.below hB10)
  clear HB9 HS9 HC9 hB10
  go_wp2_with fail
  refine (SaveL 9 9 rfl _ c2 y rfl A2 HS10.out (by decide) (Kd.C_below HC2.out HB10.out) HG.out.2.1 HG.out.2.2.2.1 HA2.out.2.2).mono ?_; rintro e w11 ⟨rfl, hS11, hO11⟩
  rw [← HA3.out.2] at hS11
  rw [HA3.out.1]
  have HS11 := Aside0.mk hS11
  have HB11 := Aside0.mk (HB10.out.trans (hO11.low _ HGB.out.1 HGB.out.2 HB10.out.size))
  clear hS11 hO11 HB10 HS10
  go_wp2_with fail
  refine (Slot HS11.out 1).mono ?_; intro e w12 h12
  rw [HZ.out.2.2.1] at h12
  obtain ⟨A12, c12, rfl, hc12, hC12, hB12⟩ := told_r h12
  have HC12 := Aside0.mk hC12; have HB12 := Aside0.mk (Aid.bthen HB11.out hB12); have HS12 := Aside0.mk (HS11.out.below hB12)
  clear h12 hC12 hB12 HS11 HB11
  go_wp2_with fail
  refine (Last HS12.out).mono ?_; intro e w13 h13
  rw [HZ.out.2.2.2] at h13
  obtain ⟨A13, c13, rfl, hc13, hC13, hB13⟩ := told_l h13
  have HB13 := Aside0.mk (Aid.bthen HB12.out hB13); have HC13 := Aside0.mk (Kd.C_below HC12.out hB13)
  clear h13 hC13 hB13 HS12 HB12 HC12
  go_wp2_with fail
  refine (alive _).mono ?_; rintro e w14 ⟨rfl, hB14⟩
  have HB14 := Aside0.mk (Aid.bthen HB13.out hB14); have HC14 := Aside0.mk (Kd.C_below HC13.out hB14)
  clear hB14 HB13 HC13
  go_wp2_with fail
  refine (SameRows A12 y.length c12 A2 y.length c2 y _ rfl rfl HC14.out hc12 (Kd.C_below HC2.out HB14.out) HG.out.2.1 HG.out.2.2.2.2.2).mono ?_; rintro e w15 ⟨rfl, hd15⟩; have hB15 := hd15.below; clear hd15
  have HB15 := Aside0.mk (Aid.bthen HB14.out hB15)
  clear HB14 HC14 hB15
  go_wp2_with fail
  go_ret
  exact ⟨rfl, HB15.out⟩
theorem SlotsBoth (A : Option Addr) (c : Nat) (l : List Int) (A1 : Option Addr) (c1 : Nat) (x : List Int) (A2 : Option Addr) (c2 : Nat) (y : List Int) (w : World) (hr : Kd.C (Kd.int .u8) w A l.length l) (hc : l.length ≤ c) (ho : Crc.okb l = true)
    (hr1 : Kd.C (Kd.int .u8) w A1 x.length x) (hc1 : x.length ≤ c1) (hox : Crc.okb x = true) (hr2 : Kd.C (Kd.int .u8) w A2 y.length y) (hc2 : y.length ≤ c2) (hoy : Crc.okb y = true) :
    Calls Try.prog 5 #[.slice A l.length c, .slice A1 x.length c1, .slice A2 y.length c2] w fun e w' => e = .returned (.bool true) ∧ Below w.heap.size w w' := by
  by_cases h : good l
  · by_cases hq : x.length ≤ room (l.length / 16) ∧ y.length ≤ room (l.length / 16) ∧ l.length ≤ 5000
    · exact SlotsBoth.yes A c l A1 c1 x A2 c2 y w hr hc h ho hr1 hc1 hox hr2 hc2 hoy hq.1 hq.2.1 hq.2.2
    · exact SlotsBoth.many A c l A1 c1 x A2 c2 y w hr hc h ho hq
  · exact SlotsBoth.no A c l A1 c1 x A2 c2 y w hr hc h
end Slots
end Disk
end Go.Proofs.Ytbjjpckldjjcgaa

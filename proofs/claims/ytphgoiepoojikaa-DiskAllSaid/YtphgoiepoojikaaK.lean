/- The law DiskAgain: its walk. -/
import Derived.Test.YtphgoiepoojikaaS
namespace Go.Proofs.Ytphgoiepoojikaa
open Go.RowKit Go.Proofs.YtphgoiepoojikaaW.PrintWords Go.Proofs.YtphgoiepoojikaaW.PrintLast Go.Proofs.YtphgoiepoojikaaW.PrintMore Go.Proofs.Ytphgoiepoojikaa.PK
set_option linter.unusedVariables false
set_option linter.unusedSimpArgs false
set_option maxHeartbeats 4000000
set_option maxRecDepth 100000
namespace Disk

theorem AtS.only {w w' : World} {g b g2 b2 n : Nat} {s : St} (h : AtS w g b n s) (ho : Only g2 b2 w w') (hne : g ≠ g2 ∧ g ≠ b2 ∧ b ≠ g2 ∧ b ≠ b2) : AtS w' g b n s :=
  At.move h (ho.keep _ (At.lt h).1 hne.1 hne.2.1) (ho.keep _ (At.lt h).2 hne.2.2.1 hne.2.2.2)
theorem AtS.below {w w' : World} {g b n : Nat} {s : St} (h : AtS w g b n s) (hb : Below w.heap.size w w') : AtS w' g b n s := At.below h hb

theorem st0_ok (l : List Int) (c : Bool) (x : Int) (d : Nat) (h0 : 0 ≤ x) (h1 : x ≤ 9223372036854775807) : (⟨l, 0, c, x⟩ : St).ok d :=
  ⟨by show -(d : Int) ≤ 0; omega, by show (0 : Int) ≤ d; omega, by show -(d : Int) ≤ x; omega, h1⟩
theorem again_a {n : Nat} {s t : St} (k : Int) (l : List Int) (h1 : s.db = t.db) (h2 : s.many = t.many) (h3 : t.cut = false) (he : (s.write n k l).1 ≠ 170) : (s.write n k l).2.db = (t.write n k l).2.db ∧ (s.write n k l).2.many = (t.write n k l).2.many ∧ (t.write n k l).2.cut = false := by
  have htd : t.down = false := by unfold St.down; rw [h3]; rfl
  unfold St.write at *
  by_cases hx : ¬ (0 ≤ k ∧ k < (n : Int)) ∨ 16 < l.length
  · rw [if_pos hx, if_pos hx]; exact ⟨h1, h2, h3⟩
  · rw [if_neg hx] at he ⊢
    rw [if_neg hx, if_neg (show ¬ t.down = true by rw [htd]; decide)]
    by_cases hd : s.down = true
    · rw [if_pos hd] at he; exact absurd rfl he
    · rw [if_neg hd]; exact ⟨by show put s.db _ _ = put t.db _ _; rw [h1], by show s.many + 1 = t.many + 1; rw [h2], h3⟩
theorem again_b {n : Nat} {s t : St} (k : Int) (l : List Int) (h1 : s.db = t.db) (h2 : s.many = t.many) (h3 : t.cut = false) (he : (s.write n k l).1 = 170) : (s.write n k l).2 = s ∧ (s.up.write n k l).2.db = (t.write n k l).2.db ∧ (s.up.write n k l).2.many = (t.write n k l).2.many ∧ (t.write n k l).2.cut = false := by
  have hs : (s.write n k l).2 = s := by
    unfold St.write at *
    split at he
    · cases he
    · split at he
      · rename_i hx hd; rw [if_neg hx, if_pos hd]
      · cases he
  have hu : s.up.down = false := by unfold St.down St.up; rfl
  have hne : (s.up.write n k l).1 ≠ 170 := by
    unfold St.write
    split
    · show (1 : Int) ≠ 170; decide
    · rw [if_neg (by rw [hu]; decide)]; show (0 : Int) ≠ 170; decide
  obtain ⟨a, b, c⟩ := again_a (s := s.up) (t := t) k l h1 h2 h3 hne
  exact ⟨hs, a, b, c⟩
def redresslaw17_DiskAgain.f (l0 : List Int) (l1 : List S38) (a2 : Int) : Option Bool := if l1.length ≤ 9223372036854775807 ∧ a2 ≤ 9223372036854775807 then some true else none
theorem DiskAgain (A0 : Option Addr) (c0 : Nat) (l0 : List Int) (A1 : Option Addr) (c1 : Nat) (l1 : List S38) (after : Int) (w : World) (hr0 : Kd.C (Kd.int .u8) w A0 l0.length l0) (hc0 : l0.length ≤ c0) (hr1 : Kd.C k38 w A1 l1.length l1) (hc1 : l1.length ≤ c1) (hm : l1.length ≤ 9223372036854775807) (ha : after ≤ 9223372036854775807) :
    Calls Try.prog 8 #[.slice A0 l0.length c0, .slice A1 l1.length c1, .int .i64 after] w fun e w' => e = .returned (.bool true) ∧ Below w.heap.size w w' := by
  have HR := Aside0.mk hr0; clear hr0
  have HL := Aside0.mk hr1; clear hr1
  have FW := Aside0.mk (Few A0 c0 l0 A1 l1.length c1 l1 w rfl HR.out hc0 HL.out hc1 hm)
  by_cases hrt : ¬ right l0
  · have RT := Aside0.mk (fun W => RightF l0 hrt W)
    clear hrt
    go_enter Try.func8, Try.ntmps8
    go_wp2_with fail
    refine FW.out.mono ?_; rintro e w1 ⟨r, rfl, _, hB⟩
    have HB := Aside0.mk hB; clear hB
    cases r
    · go_wp2_with fail
      refine (alive _).mono ?_; rintro e w2 ⟨rfl, h2⟩
      have HB2 := Aside0.mk (Aid.bthen HB.out h2); clear h2
      go_wp2_with fail
      go_ret
      exact ⟨rfl, HB2.out⟩
    · go_wp2_with fail
      refine (RT.out _).mono ?_; rintro e w2 ⟨rfl, ⟨m2, rfl⟩⟩
      go_wp2_with fail
      refine (alive _).mono ?_; rintro e w3 ⟨rfl, h2⟩
      have HB2 := Aside0.mk (Aid.bthen (pw_below_drewN HB.out m2) h2); clear h2
      go_wp2_with fail
      go_ret
      exact ⟨rfl, HB2.out⟩
  have hrt : right l0 := Classical.byContradiction hrt
  have RT := Aside0.mk (fun W => RightT l0 hrt W)
  obtain ⟨n, hn⟩ : ∃ n, l0.length = 16 * n := ⟨l0.length / 16, by have := hrt.2.2; omega⟩
  have HN := Aside0.mk hn
  have h1n : 1 ≤ n := by have := hrt.1; omega
  have h2n : n ≤ 1024 := by have := hrt.2.1; omega
  obtain ⟨ad, rfl⟩ : ∃ ad, A0 = some ad := by
    obtain ⟨x, h, _⟩ := HR.out.2.2 (by have := hrt.1; omega)
    exact ⟨x, h⟩
  clear hn hrt
  go_enter Try.func8, Try.ntmps8
  go_wp2_with fail
  refine FW.out.mono ?_; rintro e w1 ⟨r, rfl, hfew, hB⟩
  have HB := Aside0.mk hB; clear hB
  cases r
  · clear hfew
    go_wp2_with fail
    refine (alive _).mono ?_; rintro e w2 ⟨rfl, h2⟩
    have HB2 := Aside0.mk (Aid.bthen HB.out h2); clear h2
    go_wp2_with fail
    go_ret
    exact ⟨rfl, HB2.out⟩
  have L50 := Aside0.mk (hfew rfl).2
  clear hfew
  go_wp2_with fail
  refine (RT.out _).mono ?_; rintro e w2 ⟨rfl, ⟨m2, rfl⟩⟩
  go_wp2_with fail
  refine (Load.ok ad c0 n l0 _ (Kd.C_below HR.out (pw_below_drewN HB.out m2)) hc0 HN.out h1n h2n).mono ?_
  rintro e w3 ⟨g, b, rfl, hA, hg, hb, hB3⟩
  have HA := Aside0.mk hA
  have HB3 := Aside0.mk (Aid.bthen (pw_below_drewN HB.out m2) hB3)
  have HG := Aside0.mk (show w.heap.size ≤ g ∧ w.heap.size ≤ b from ⟨Nat.le_trans HB.out.size hg, Nat.le_trans HB.out.size hb⟩)
  clear hA hB3 hg hb HB
  go_wp2_with fail
  refine (Load.ok ad c0 n l0 _ (Kd.C_below HR.out HB3.out) hc0 HN.out h1n h2n).mono ?_
  rintro e w4 ⟨g2, b2, rfl, hA2, hg2, hb2, hB4⟩
  have HNE := Aside0.mk (show g ≠ g2 ∧ g ≠ b2 ∧ b ≠ g2 ∧ b ≠ b2 by have := HA.out.lt; omega)
  have HA4 := Aside0.mk (HA.out.below hB4)
  have HA2 := Aside0.mk hA2
  have HB4 := Aside0.mk (Aid.bthen HB3.out hB4)
  have HG2 := Aside0.mk (show w.heap.size ≤ g2 ∧ w.heap.size ≤ b2 from ⟨Nat.le_trans HB3.out.size hg2, Nat.le_trans HB3.out.size hb2⟩)
  clear hA2 hB4 hg2 hb2 HA HB3
  go_wp2_with fail
  refine (Cut HA4.out after).mono ?_; rintro e w5 ⟨rfl, hA5, hO5⟩
  have HA5 := Aside0.mk (show AtS w5 g b n ⟨l0, 0, true, max 0 after⟩ from hA5)
  have HA25 := Aside0.mk (show AtS w5 g2 b2 n ⟨l0, 0, false, 0⟩ from AtS.only (s := ⟨l0, 0, false, 0⟩) HA2.out hO5 ⟨HNE.out.1.symm, HNE.out.2.2.1.symm, HNE.out.2.1.symm, HNE.out.2.2.2.symm⟩)
  have HB5 := Aside0.mk (HB4.out.trans (hO5.low _ HG.out.1 HG.out.2 HB4.out.size))
  clear hA5 hO5 HA4 HA2 HB4
  go_wp2_with fail
  go_loopg [49] (l1.length + 1) (fun kq v49 w' => ∃ (j : Nat) (s t : St), v49 = .int .i64 (j : Int) ∧ Aside0 (kq + j = l1.length + 1 ∧ j ≤ l1.length) ∧ Aside0 (AtS w' g b n s ∧ AtS w' g2 b2 n t) ∧ Aside0 (s.db = t.db ∧ s.many = t.many ∧ t.cut = false ∧ s.ok (2 * j) ∧ t.ok (2 * j)) ∧ Aside0 (Below w.heap.size w w'))
  case atStart => exact ⟨0, _, _, rfl, ⟨by omega, by omega⟩, ⟨HA5.out, HA25.out⟩, ⟨rfl, rfl, rfl, st0_ok l0 true (max 0 after) 0 (by omega) (by omega), st0_ok l0 false 0 0 (by omega) (by omega)⟩, HB5⟩
  case round =>
    clear HA5 HA25 HB5
    obtain ⟨j, s, t, rfl, HK, HA, HST, HB⟩ := hrel
    cases gk with
    | zero => exact absurd HK.out (by omega)
    | succ k1 =>
      by_cases hj : j < l1.length
      · have c14 : decide ((j : Int) < (l1.length : Int)) = true := decide_eq_true (by omega)
        have p0 : (0 : Int) ≤ (j : Int) := by omega
        have q0 : (j : Int) < (l1.length : Int) := by omega
        obtain ⟨ad1, A7, c7, e7, x0, x1, x2, hc7, hC7⟩ := at_T38 HL.out (j : Int) p0 q0
        cases e7
        simp only [Int.toNat_natCast] at x0 x1 x2
        obtain ⟨o, ho⟩ : ∃ o, o = rd_T38 l1 (j : Int) := ⟨_, rfl⟩
        rw [← ho] at x0 x1 x2 hc7 hC7
        replace x0 := (HB.out.cell (World.block_lt_of_cell? w _ x0)).trans x0
        replace x1 := (HB.out.cell (World.block_lt_of_cell? w _ x1)).trans x1
        replace x2 := (HB.out.cell (World.block_lt_of_cell? w _ x2)).trans x2
        have HC7 := Aside0.mk hC7
        clear ho hC7
        go_wp2_with fail
        obtain ⟨w6, hw6⟩ : ∃ w6, w6 = wr.alloc (.cells #[.int .i64 o.f0, .int .i64 o.f1, .slice A7 o.f2.length c7] 38) := ⟨_, rfl⟩
        rw [← hw6]
        have hb6 : Below wr.heap.size wr w6 := by rw [hw6]; exact (Below.refl _ _).alloc (Nat.le_refl _) _
        have HX6 := Aside0.mk (show w6.heap[wr.heap.size]? = some (.cells #[.int .i64 o.f0, .int .i64 o.f1, .slice A7 o.f2.length c7] 38 (0, 0)) by rw [hw6]; exact heap_alloc_last wr _)
        have HA6 := Aside0.mk (show AtS w6 g b n s ∧ AtS w6 g2 b2 n t from ⟨AtS.below HA.out.1 hb6, AtS.below HA.out.2 hb6⟩)
        have HB6 := Aside0.mk (Aid.bthen HB.out hb6)
        have HXN := Aside0.mk (show wr.heap.size ≠ g ∧ wr.heap.size ≠ b ∧ wr.heap.size ≠ g2 ∧ wr.heap.size ≠ b2 ∧ wr.heap.size < w6.heap.size by have h1 := At.lt HA.out.1; have h2 := At.lt HA.out.2; have := blk_lt HX6.out; omega)
        clear hb6 hw6 HA HB x0 x1 x2
        refine (WriteAny HA6.out.2 o.f1 A7 c7 o.f2 (Kd.C_below HC7.out HB6.out) hc7 (St.ok_le HST.out.2.2.2.2 (by have := L50.out; omega))).mono ?_
        rintro e w7 ⟨rfl, hA7, hO7⟩
        have HX7 := Aside0.mk ((hO7.keep _ HXN.out.2.2.2.2 HXN.out.2.2.1 HXN.out.2.2.2.1).trans HX6.out)
        have HA7 := Aside0.mk (show AtS w7 g b n s ∧ AtS w7 g2 b2 n (t.write n o.f1 o.f2).2 from ⟨AtS.only HA6.out.1 hO7 HNE.out, hA7⟩)
        have HB7 := Aside0.mk (HB6.out.trans (hO7.low _ HG2.out.1 HG2.out.2 HB6.out.size))
        have HXL := Aside0.mk (show wr.heap.size < w7.heap.size from Nat.lt_of_lt_of_le HXN.out.2.2.2.2 hO7.size)
        have y1 : w7.cell? ⟨wr.heap.size, 1, none⟩ = some (.int .i64 o.f1) := by rw [cell_of_row _ _ _ _ _ _ HX7.out]; rfl
        have y2 : w7.cell? ⟨wr.heap.size, 2, none⟩ = some (.slice A7 o.f2.length c7) := by rw [cell_of_row _ _ _ _ _ _ HX7.out]; rfl
        clear hA7 hO7 HA6 HB6 HX6
        go_wp2_with fail
        refine (WriteAny HA7.out.1 o.f1 A7 c7 o.f2 (Kd.C_below HC7.out HB7.out) hc7 (St.ok_le HST.out.2.2.2.1 (by have := L50.out; omega))).mono ?_
        rintro e w8 ⟨rfl, hA8, hO8⟩
        have HX8 := Aside0.mk ((hO8.keep _ HXL.out HXN.out.1 HXN.out.2.1).trans HX7.out)
        have HA8 := Aside0.mk (show AtS w8 g b n (s.write n o.f1 o.f2).2 ∧ AtS w8 g2 b2 n (t.write n o.f1 o.f2).2 from ⟨hA8, AtS.only HA7.out.2 hO8 ⟨HNE.out.1.symm, HNE.out.2.2.1.symm, HNE.out.2.1.symm, HNE.out.2.2.2.symm⟩⟩)
        have HB8 := Aside0.mk (HB7.out.trans (hO8.low _ HG.out.1 HG.out.2 HB7.out.size))
        clear hA8 hO8 HA7 HB7 y1 y2
        have z1 : w8.cell? ⟨wr.heap.size, 1, none⟩ = some (.int .i64 o.f1) := by rw [cell_of_row _ _ _ _ _ _ HX8.out]; rfl
        have z2 : w8.cell? ⟨wr.heap.size, 2, none⟩ = some (.slice A7 o.f2.length c7) := by rw [cell_of_row _ _ _ _ _ _ HX8.out]; rfl
        have ej : IntKind.i64.wrap ((j : Int) + 1) = ((j + 1 : Nat) : Int) := by rw [IntKind.wrap_i64]; omega
        have HOS := Aside0.mk (St.ok_write (n := n) HST.out.2.2.2.1 o.f1 o.f2)
        have HOT := Aside0.mk (St.ok_write (n := n) HST.out.2.2.2.2 o.f1 o.f2)
        by_cases h170 : (s.write n o.f1 o.f2).1 = 170
        · have b170 : ((s.write n o.f1 o.f2).1 == 170) = true := by rw [h170]; rfl
          obtain ⟨q1, q2, q3, q4⟩ := again_b (n := n) o.f1 o.f2 HST.out.1 HST.out.2.1 HST.out.2.2.1 h170
          have HQ := Aside0.mk (And.intro q2 (And.intro q3 q4))
          rw [q1] at HA8
          have HXL8 := Aside0.mk (blk_lt HX8.out)
          clear q1 q2 q3 q4 h170
          go_wp2_with fail
          refine (Up HA8.out.1).mono ?_; rintro e w9 ⟨rfl, hA9, hO9⟩
          have HX9 := Aside0.mk ((hO9.keep _ HXL8.out HXN.out.1 HXN.out.2.1).trans HX8.out)
          have HA9 := Aside0.mk (show AtS w9 g b n s.up ∧ AtS w9 g2 b2 n (t.write n o.f1 o.f2).2 from ⟨hA9, AtS.only HA8.out.2 hO9 ⟨HNE.out.1.symm, HNE.out.2.2.1.symm, HNE.out.2.1.symm, HNE.out.2.2.2.symm⟩⟩)
          have HB9 := Aside0.mk (HB8.out.trans (hO9.low _ HG.out.1 HG.out.2 HB8.out.size))
          have u1 : w9.cell? ⟨wr.heap.size, 1, none⟩ = some (.int .i64 o.f1) := by rw [cell_of_row _ _ _ _ _ _ HX9.out]; rfl
          have u2 : w9.cell? ⟨wr.heap.size, 2, none⟩ = some (.slice A7 o.f2.length c7) := by rw [cell_of_row _ _ _ _ _ _ HX9.out]; rfl
          clear hA9 hO9 HA8 HB8 z1 z2 HX8
          go_wp2_with fail
          refine (WriteAny HA9.out.1 o.f1 A7 c7 o.f2 (Kd.C_below HC7.out HB9.out) hc7 (St.ok_le (St.ok_up HST.out.2.2.2.1) (by have := L50.out; omega))).mono ?_
          rintro e w10 ⟨rfl, hA10, hO10⟩
          have HA10 := Aside0.mk (show AtS w10 g b n (s.up.write n o.f1 o.f2).2 ∧ AtS w10 g2 b2 n (t.write n o.f1 o.f2).2 from ⟨hA10, AtS.only HA9.out.2 hO10 ⟨HNE.out.1.symm, HNE.out.2.2.1.symm, HNE.out.2.1.symm, HNE.out.2.2.2.symm⟩⟩)
          have HB10 := Aside0.mk (HB9.out.trans (hO10.low _ HG.out.1 HG.out.2 HB9.out.size))
          have HOU := Aside0.mk (St.ok_write (n := n) (St.ok_up HST.out.2.2.2.1) o.f1 o.f2)
          clear hA10 hO10 HA9 HB9 u1 u2 HX9
          go_wp2_with fail
          go_roundg k1
          case measure => omega
          case rel => exact ⟨j + 1, _, _, by first | (simp; done) | rw [ej], ⟨by have := HK.out; omega, by omega⟩, HA10, ⟨HQ.out.1, HQ.out.2.1, HQ.out.2.2, St.ok_le HOU.out (by omega), St.ok_le HOT.out (by omega)⟩, HB10⟩
        · have b170 : ((s.write n o.f1 o.f2).1 == 170) = false := by simpa using h170
          have HQ := Aside0.mk (again_a (n := n) o.f1 o.f2 HST.out.1 HST.out.2.1 HST.out.2.2.1 h170)
          go_wp2_with fail
          go_roundg k1
          case measure => omega
          case rel => exact ⟨j + 1, _, _, by first | (simp; done) | rw [ej], ⟨by have := HK.out; omega, by omega⟩, HA8, ⟨HQ.out.1, HQ.out.2.1, HQ.out.2.2, St.ok_le HOS.out (by omega), St.ok_le HOT.out (by omega)⟩, HB8⟩
      · have c14 : decide ((j : Int) < (l1.length : Int)) = false := decide_eq_false (by omega)
        clear HK
        go_wp2_with fail
        refine (alive _).mono ?_; rintro e w6 ⟨rfl, hb6⟩
        have HA6 := Aside0.mk (show AtS w6 g b n s ∧ AtS w6 g2 b2 n t from ⟨AtS.below HA.out.1 hb6, AtS.below HA.out.2 hb6⟩)
        have HB6 := Aside0.mk (Aid.bthen HB.out hb6)
        clear hb6 HA HB
        go_wp2_with fail
        refine (Bytes HA6.out.1).mono ?_; rintro e w7 ⟨v7, rfl, hR7, hb7⟩
        obtain ⟨A7, c7, rfl, hc7, hC7⟩ := Kd.R_reads hR7
        have HC7 := Aside0.mk hC7
        have HA7 := Aside0.mk (show AtS w7 g b n s ∧ AtS w7 g2 b2 n t from ⟨AtS.below HA6.out.1 hb7, AtS.below HA6.out.2 hb7⟩)
        have HB7 := Aside0.mk (Aid.bthen HB6.out hb7)
        clear hR7 hC7 hb7 HA6 HB6
        go_wp2_with fail
        refine (Bytes HA7.out.2).mono ?_; rintro e w8 ⟨v8, rfl, hR8, hb8⟩
        obtain ⟨A8, c8, rfl, hc8, hC8⟩ := Kd.R_reads hR8
        have HC8 := Aside0.mk hC8
        have HC78 := Aside0.mk (Kd.C_below HC7.out hb8)
        have HA8 := Aside0.mk (show AtS w8 g b n s ∧ AtS w8 g2 b2 n t from ⟨AtS.below HA7.out.1 hb8, AtS.below HA7.out.2 hb8⟩)
        have HB8 := Aside0.mk (Aid.bthen HB7.out hb8)
        clear hR8 hC8 hb8 HA7 HB7 HC7
        go_wp2_with fail
        refine (SameN A7 s.db.length c7 s.db A8 t.db.length c8 t.db w8 rfl rfl HC78.out hc7 HC8.out hc8 (by have := At.len HA8.out.1; have := h2n; omega)).mono ?_
        rw [decide_eq_true HST.out.1]
        rintro e w9 ⟨rfl, ⟨m9, rfl⟩⟩
        go_wp2_with fail
        refine (Writes (At.drewN HA8.out.1 m9)).mono ?_; rintro e w10 ⟨rfl, ⟨m10, rfl⟩⟩
        go_wp2_with fail
        refine (Writes (At.drewN HA8.out.2 _)).mono ?_; rintro e w11 ⟨rfl, ⟨m11, rfl⟩⟩
        have em : (s.many == t.many) = true := by rw [HST.out.2.1]; simp
        go_wp2_with fail
        go_ret
        exact ⟨rfl, pw_below_drewN HB8.out _⟩
theorem redresslaw17_DiskAgain.calls (A0 : Option Addr) (c0 : Nat) (l0 : List Int) (A1 : Option Addr) (c1 : Nat) (l1 : List S38) (a2 : Int) (r : Bool) (w : World) (hr0 : Kd.C (Kd.int .u8) w A0 l0.length l0) (hc0 : l0.length ≤ c0) (hr1 : Kd.C k38 w A1 l1.length l1) (hc1 : l1.length ≤ c1) (h : redresslaw17_DiskAgain.f l0 l1 a2 = some r) :
    Calls Try.prog 8 #[.slice A0 l0.length c0, .slice A1 l1.length c1, .int .i64 a2] w fun e w' => e = .returned (.bool r) ∧ Below w.heap.size w w' := by
  unfold redresslaw17_DiskAgain.f at h
  split at h
  case isFalse => cases h
  rename_i hh
  obtain rfl := Option.some.inj h
  exact DiskAgain A0 c0 l0 A1 c1 l1 a2 w hr0 hc0 hr1 hc1 hh.1 hh.2
end Disk
end Go.Proofs.Ytphgoiepoojikaa

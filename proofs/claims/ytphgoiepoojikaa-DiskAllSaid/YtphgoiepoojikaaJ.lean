/- The law DiskCut: its walk (printed by genJ.py). -/
import Derived.Test.YtphgoiepoojikaaK
namespace Go.Proofs.Ytphgoiepoojikaa
open Go.RowKit Go.Proofs.YtphgoiepoojikaaW.PrintWords Go.Proofs.YtphgoiepoojikaaW.PrintLast Go.Proofs.YtphgoiepoojikaaW.PrintMore Go.Proofs.Ytphgoiepoojikaa.PK
set_option linter.unusedVariables false
set_option linter.unusedSimpArgs false
set_option maxHeartbeats 4000000
set_option maxRecDepth 100000
attribute [local go_sem] max2_int min2_int max_two min_two
namespace Disk

theorem wr_arg {n : Nat} {s : St} {k : Int} {l : List Int} (h : ¬ (0 ≤ k ∧ k < (n : Int)) ∨ 16 < l.length) : s.write n k l = (1, s) := by unfold St.write; rw [if_pos h]
theorem wr_down {n : Nat} {s : St} {k : Int} {l : List Int} (h : ¬ (¬ (0 ≤ k ∧ k < (n : Int)) ∨ 16 < l.length)) (hd : s.down = true) : s.write n k l = (170, s) := by unfold St.write; rw [if_neg h, if_pos hd]
theorem wr_ok {n : Nat} {s : St} {k : Int} {l : List Int} (h : ¬ (¬ (0 ≤ k ∧ k < (n : Int)) ∨ 16 < l.length)) (hd : s.down = false) : s.write n k l = (0, { s with db := put s.db k.toNat l, many := s.many + 1, left := s.left - 1 }) := by unfold St.write; rw [if_neg h, if_neg (by rw [hd]; decide)]
/-- A disk of which m writes came where a may. -/
def cutSt (db : List Int) (a m : Nat) : St := ⟨db, ((min m a : Nat) : Int), true, (a : Int) - ((min m a : Nat) : Int)⟩
theorem cut_ok (db : List Int) (a m d : Nat) (ha : (a : Int) ≤ 9223372036854775807) (hd : m ≤ d) : (cutSt db a m).ok d := by
  have h1 : min m a ≤ m := Nat.min_le_left _ _
  have h2 : min m a ≤ a := Nat.min_le_right _ _
  refine ⟨?_, ?_, ?_, ?_⟩
  · show -(d : Int) ≤ ((min m a : Nat) : Int); omega
  · show ((min m a : Nat) : Int) ≤ d; omega
  · show -(d : Int) ≤ (a : Int) - ((min m a : Nat) : Int); omega
  · show (a : Int) - ((min m a : Nat) : Int) ≤ 9223372036854775807; omega
theorem cut_down (db : List Int) (a m : Nat) : (cutSt db a m).down = decide (a ≤ m) := by
  unfold St.down cutSt
  by_cases h : a ≤ m
  · rw [decide_eq_true h, decide_eq_true (show (a : Int) - ((min m a : Nat) : Int) ≤ 0 by rw [Nat.min_eq_right h]; omega)]; rfl
  · rw [decide_eq_false h, decide_eq_false (show ¬ (a : Int) - ((min m a : Nat) : Int) ≤ 0 by rw [Nat.min_eq_left (by omega)]; omega)]; rfl
def redresslaw17_DiskCut.f (l0 : List Int) (l1 : List S38) (a2 : Int) : Option Bool := if l1.length ≤ 9223372036854775807 ∧ a2 ≤ 9223372036854775807 then some true else none
theorem DiskCut (A0 : Option Addr) (c0 : Nat) (l0 : List Int) (A1 : Option Addr) (c1 : Nat) (l1 : List S38) (after : Int) (w : World) (hr0 : Kd.C (Kd.int .u8) w A0 l0.length l0) (hc0 : l0.length ≤ c0) (hr1 : Kd.C k38 w A1 l1.length l1) (hc1 : l1.length ≤ c1) (hm : l1.length ≤ 9223372036854775807) (ha : after ≤ 9223372036854775807) :
    Calls Try.prog 6 #[.slice A0 l0.length c0, .slice A1 l1.length c1, .int .i64 after] w fun e w' => e = .returned (.bool true) ∧ Below w.heap.size w w' := by
  have HR := Aside0.mk hr0; clear hr0
  have HL := Aside0.mk hr1; clear hr1
  have FW := Aside0.mk (Few A0 c0 l0 A1 l1.length c1 l1 w rfl HR.out hc0 HL.out hc1 hm)
  by_cases hrt : ¬ right l0
  · have RT := Aside0.mk (fun W => RightF l0 hrt W)
    clear hrt
    go_enter Try.func6, Try.ntmps6
    go_wp2_with fail
    refine FW.out.mono ?_; rintro e w1 ⟨r, rfl, _, hB⟩
    have HB := Aside0.mk hB; clear hB
    cases r
    · go_wp2_with fail
      refine (alive _).mono ?_; rintro e w2 ⟨rfl, h2⟩
      have HB2 := Aside0.mk (Aid.bthen HB.out h2); clear h2
      go_wp2_with fail
      go_ret
      exact ⟨rfl, HB2.out⟩
    · go_wp2_with fail
      refine (RT.out _).mono ?_; rintro e w2 ⟨rfl, ⟨m2, rfl⟩⟩
      go_wp2_with fail
      refine (alive _).mono ?_; rintro e w3 ⟨rfl, h2⟩
      have HB2 := Aside0.mk (Aid.bthen (pw_below_drewN HB.out m2) h2); clear h2
      go_wp2_with fail
      go_ret
      exact ⟨rfl, HB2.out⟩
  have hrt : right l0 := Classical.byContradiction hrt
  by_cases hneg : after < 0
  · have b0 : decide (after < 0) = true := decide_eq_true hneg
    have RT := Aside0.mk (fun W => RightT l0 hrt W)
    go_enter Try.func6, Try.ntmps6
    go_wp2_with fail
    refine FW.out.mono ?_; rintro e w1 ⟨r, rfl, _, hB⟩
    have HB := Aside0.mk hB; clear hB
    cases r
    · go_wp2_with fail
      refine (alive _).mono ?_; rintro e w2 ⟨rfl, h2⟩
      have HB2 := Aside0.mk (Aid.bthen HB.out h2); clear h2
      go_wp2_with fail
      go_ret
      exact ⟨rfl, HB2.out⟩
    · go_wp2_with fail
      refine (RT.out _).mono ?_; rintro e w2 ⟨rfl, ⟨m2, rfl⟩⟩
      go_wp2_with fail
      refine (alive _).mono ?_; rintro e w3 ⟨rfl, h2⟩
      have HB2 := Aside0.mk (Aid.bthen (pw_below_drewN HB.out m2) h2); clear h2
      go_wp2_with fail
      go_ret
      exact ⟨rfl, HB2.out⟩
  have b0 : decide (after < 0) = false := decide_eq_false hneg
  obtain ⟨a, rfl⟩ : ∃ a : Nat, after = (a : Int) := ⟨after.toNat, by omega⟩
  have HA9 := Aside0.mk ha
  clear hneg ha
  have RT := Aside0.mk (fun W => RightT l0 hrt W)
  obtain ⟨n, hn⟩ : ∃ n, l0.length = 16 * n := ⟨l0.length / 16, by have := hrt.2.2; omega⟩
  have HN := Aside0.mk hn
  have h1n : 1 ≤ n := by have := hrt.1; omega
  have h2n : n ≤ 1024 := by have := hrt.2.1; omega
  obtain ⟨ad, rfl⟩ : ∃ ad, A0 = some ad := by
    obtain ⟨x, h, _⟩ := HR.out.2.2 (by have := hrt.1; omega)
    exact ⟨x, h⟩
  clear hn hrt
  go_enter Try.func6, Try.ntmps6
  go_wp2_with fail
  refine FW.out.mono ?_; rintro e w1 ⟨r, rfl, hfew, hB⟩
  have HB := Aside0.mk hB; clear hB
  cases r
  · clear hfew
    go_wp2_with fail
    refine (alive _).mono ?_; rintro e w2 ⟨rfl, h2⟩
    have HB2 := Aside0.mk (Aid.bthen HB.out h2); clear h2
    go_wp2_with fail
    go_ret
    exact ⟨rfl, HB2.out⟩
  have L50 := Aside0.mk (hfew rfl).2
  clear hfew
  go_wp2_with fail
  refine (RT.out _).mono ?_; rintro e w2 ⟨rfl, ⟨m2, rfl⟩⟩
  go_wp2_with fail
  refine (Load.ok ad c0 n l0 _ (Kd.C_below HR.out (pw_below_drewN HB.out m2)) hc0 HN.out h1n h2n).mono ?_
  rintro e w3 ⟨g, b, rfl, hA, hg, hb, hB3⟩
  have HA := Aside0.mk hA
  have HB3 := Aside0.mk (Aid.bthen (pw_below_drewN HB.out m2) hB3)
  have HG := Aside0.mk (show w.heap.size ≤ g ∧ w.heap.size ≤ b from ⟨Nat.le_trans HB.out.size hg, Nat.le_trans HB.out.size hb⟩)
  clear hA hB3 hg hb HB
  go_wp2_with fail
  refine (Load.ok ad c0 n l0 _ (Kd.C_below HR.out HB3.out) hc0 HN.out h1n h2n).mono ?_
  rintro e w4 ⟨g2, b2, rfl, hA2, hg2, hb2, hB4⟩
  have HNE := Aside0.mk (show g ≠ g2 ∧ g ≠ b2 ∧ b ≠ g2 ∧ b ≠ b2 by have := HA.out.lt; omega)
  have HA4 := Aside0.mk (HA.out.below hB4)
  have HA2 := Aside0.mk hA2
  have HB4 := Aside0.mk (Aid.bthen HB3.out hB4)
  have HG2 := Aside0.mk (show w.heap.size ≤ g2 ∧ w.heap.size ≤ b2 from ⟨Nat.le_trans HB3.out.size hg2, Nat.le_trans HB3.out.size hb2⟩)
  clear hA2 hB4 hg2 hb2 HA HB3
  go_wp2_with fail
  refine (Cut HA4.out (a : Int)).mono ?_; rintro e w5 ⟨rfl, hA5, hO5⟩
  rw [show max (0 : Int) (a : Int) = (a : Int) by omega] at hA5
  have HA5 := Aside0.mk (show AtS w5 g b n (cutSt l0 a 0) from by have e0 : cutSt l0 a 0 = ⟨l0, 0, true, (a : Int)⟩ := by simp [cutSt]
                                                                  rw [e0]; exact hA5)
  have HA25 := Aside0.mk (show AtS w5 g2 b2 n ⟨l0, 0, false, 0⟩ from AtS.only (s := ⟨l0, 0, false, 0⟩) HA2.out hO5 ⟨HNE.out.1.symm, HNE.out.2.2.1.symm, HNE.out.2.1.symm, HNE.out.2.2.2.symm⟩)
  have HB5 := Aside0.mk (HB4.out.trans (hO5.low _ HG.out.1 HG.out.2 HB4.out.size))
  clear hA5 hO5 HA4 HA2 HB4
  go_wp2_with fail
  go_loopg [11, 55] (l1.length + 1) (fun kq v11 v55 w' => ∃ (j m : Nat) (t : St), v11 = .int .i64 (m : Int) ∧ v55 = .int .i64 (j : Int) ∧ Aside0 (kq + j = l1.length + 1 ∧ j ≤ l1.length ∧ m ≤ j) ∧ Aside0 (AtS w' g b n (cutSt t.db a m) ∧ AtS w' g2 b2 n t) ∧ Aside0 (t.cut = false ∧ t.ok j) ∧ Aside0 (Below w.heap.size w w'))
  case atStart => exact ⟨0, 0, _, rfl, rfl, ⟨by omega, by omega, Nat.le_refl _⟩, ⟨HA5.out, HA25.out⟩, ⟨rfl, st0_ok l0 false 0 0 (by omega) (by omega)⟩, HB5⟩
  case round =>
    clear HA5 HA25 HB5
    obtain ⟨j, m, t, rfl, rfl, HK, HA, HST, HB⟩ := hrel
    cases gk with
    | zero => exact absurd HK.out (by omega)
    | succ k1 =>
      by_cases hj : j < l1.length
      · have c14 : decide ((j : Int) < (l1.length : Int)) = true := decide_eq_true (by omega)
        have p0 : (0 : Int) ≤ (j : Int) := by omega
        have q0 : (j : Int) < (l1.length : Int) := by omega
        obtain ⟨ad1, A7, c7, e7, x0, x1, x2, hc7, hC7⟩ := at_T38 HL.out (j : Int) p0 q0
        cases e7
        simp only [Int.toNat_natCast] at x0 x1 x2
        obtain ⟨o, ho⟩ : ∃ o, o = rd_T38 l1 (j : Int) := ⟨_, rfl⟩
        rw [← ho] at x0 x1 x2 hc7 hC7
        replace x0 := (HB.out.cell (World.block_lt_of_cell? w _ x0)).trans x0
        replace x1 := (HB.out.cell (World.block_lt_of_cell? w _ x1)).trans x1
        replace x2 := (HB.out.cell (World.block_lt_of_cell? w _ x2)).trans x2
        have HC7 := Aside0.mk hC7
        clear ho hC7
        go_wp2_with fail
        obtain ⟨w6, hw6⟩ : ∃ w6, w6 = wr.alloc (.cells #[.int .i64 o.f0, .int .i64 o.f1, .slice A7 o.f2.length c7] 38) := ⟨_, rfl⟩
        rw [← hw6]
        have hb6 : Below wr.heap.size wr w6 := by rw [hw6]; exact (Below.refl _ _).alloc (Nat.le_refl _) _
        have HX6 := Aside0.mk (show w6.heap[wr.heap.size]? = some (.cells #[.int .i64 o.f0, .int .i64 o.f1, .slice A7 o.f2.length c7] 38 (0, 0)) by rw [hw6]; exact heap_alloc_last wr _)
        have HA6 := Aside0.mk (show AtS w6 g b n (cutSt t.db a m) ∧ AtS w6 g2 b2 n t from ⟨AtS.below HA.out.1 hb6, AtS.below HA.out.2 hb6⟩)
        have HB6 := Aside0.mk (Aid.bthen HB.out hb6)
        have HXN := Aside0.mk (show wr.heap.size ≠ g ∧ wr.heap.size ≠ b ∧ wr.heap.size ≠ g2 ∧ wr.heap.size ≠ b2 ∧ wr.heap.size < w6.heap.size by have h1 := At.lt HA.out.1; have h2 := At.lt HA.out.2; have := blk_lt HX6.out; omega)
        clear hb6 hw6 HA HB x0 x1 x2
        have ej : IntKind.i64.wrap ((j : Int) + 1) = ((j + 1 : Nat) : Int) := by rw [IntKind.wrap_i64]; have := L50.out; omega
        have em1 : IntKind.i64.wrap ((m : Int) + 1) = ((m + 1 : Nat) : Int) := by rw [IntKind.wrap_i64]; have := L50.out; have := HK.out; omega
        have W1 := WriteAny HA6.out.1 o.f1 A7 c7 o.f2 (Kd.C_below HC7.out HB6.out) hc7 (cut_ok t.db a m 1000000 HA9.out (by have := L50.out; have := HK.out; omega))
        by_cases hx : ¬ (0 ≤ o.f1 ∧ o.f1 < (n : Int)) ∨ 16 < o.f2.length
        · rw [wr_arg hx] at W1
          have HW1 := Aside0.mk W1; clear W1 hx
          refine HW1.out.mono ?_
          rintro e w7 ⟨rfl, hA7, hO7⟩
          have HA7 := Aside0.mk (show AtS w7 g b n (cutSt t.db a m) ∧ AtS w7 g2 b2 n t from ⟨hA7, AtS.only HA6.out.2 hO7 ⟨HNE.out.1.symm, HNE.out.2.2.1.symm, HNE.out.2.1.symm, HNE.out.2.2.2.symm⟩⟩)
          have HB7 := Aside0.mk (HB6.out.trans (hO7.low _ HG.out.1 HG.out.2 HB6.out.size))
          clear hA7 hO7 HA6 HB6 HX6 HW1
          go_wp2_with fail
          go_roundg k1
          case measure => omega
          case rel => exact ⟨j + 1, m, t, rfl, by first | (simp; done) | rw [ej], ⟨by have := HK.out; omega, by omega, by have := HK.out; omega⟩, HA7, ⟨HST.out.1, St.ok_le HST.out.2 (by omega)⟩, HB7⟩
        · by_cases hma : a ≤ m
          · rw [wr_down hx (by rw [cut_down, decide_eq_true hma])] at W1
            have HW1 := Aside0.mk W1; clear W1 hx
            have q1 : decide ((m : Int) < (a : Int)) = false := decide_eq_false (by omega)
            have emin : cutSt t.db a (m + 1) = cutSt t.db a m := by unfold cutSt; rw [Nat.min_eq_right hma, Nat.min_eq_right (by omega)]
            refine HW1.out.mono ?_
            rintro e w7 ⟨rfl, hA7, hO7⟩
            have HA7 := Aside0.mk (show AtS w7 g b n (cutSt t.db a (m + 1)) ∧ AtS w7 g2 b2 n t from ⟨by rw [emin]; exact hA7, AtS.only HA6.out.2 hO7 ⟨HNE.out.1.symm, HNE.out.2.2.1.symm, HNE.out.2.1.symm, HNE.out.2.2.2.symm⟩⟩)
            have HB7 := Aside0.mk (HB6.out.trans (hO7.low _ HG.out.1 HG.out.2 HB6.out.size))
            clear hA7 hO7 HA6 HB6 HX6 HW1 emin
            go_wp2_with fail
            go_roundg k1
            case measure => omega
            case rel => exact ⟨j + 1, m + 1, t, by first | (simp; done) | rw [em1], by first | (simp; done) | rw [ej], ⟨by have := HK.out; omega, by omega, by have := HK.out; omega⟩, HA7, ⟨HST.out.1, St.ok_le HST.out.2 (by omega)⟩, HB7⟩
          · rw [wr_ok hx (by rw [cut_down, decide_eq_false hma])] at W1
            have HW1 := Aside0.mk W1; clear W1
            have q1 : decide ((m : Int) < (a : Int)) = true := decide_eq_true (by omega)
            have q2 : decide ((a : Int) ≤ (m : Int)) = false := decide_eq_false (by omega)
            have q3 : (m : Int) < (a : Int) := by omega
            have q4 : ¬ ((a : Int) ≤ (m : Int)) := by omega
            have HX := Aside0.mk hx; clear hx
            refine HW1.out.mono ?_
            rintro e w7 ⟨rfl, hA7, hO7⟩
            have HX7 := Aside0.mk ((hO7.keep _ HXN.out.2.2.2.2 HXN.out.1 HXN.out.2.1).trans HX6.out)
            have e2 : (⟨put t.db o.f1.toNat o.f2, ((min m a : Nat) : Int) + 1, true, (a : Int) - ((min m a : Nat) : Int) - 1⟩ : St) = cutSt (put t.db o.f1.toNat o.f2) a (m + 1) := by
              unfold cutSt
              rw [Nat.min_eq_left (show m ≤ a by omega), Nat.min_eq_left (show m + 1 ≤ a by omega)]
              congr 1
              omega
            have HA7 := Aside0.mk (show AtS w7 g b n (cutSt (put t.db o.f1.toNat o.f2) a (m + 1)) ∧ AtS w7 g2 b2 n t from ⟨by rw [← e2]; exact hA7, AtS.only HA6.out.2 hO7 ⟨HNE.out.1.symm, HNE.out.2.2.1.symm, HNE.out.2.1.symm, HNE.out.2.2.2.symm⟩⟩)
            have HB7 := Aside0.mk (HB6.out.trans (hO7.low _ HG.out.1 HG.out.2 HB6.out.size))
            have y1 : w7.cell? ⟨wr.heap.size, 1, none⟩ = some (.int .i64 o.f1) := by rw [cell_of_row _ _ _ _ _ _ HX7.out]; rfl
            have y2 : w7.cell? ⟨wr.heap.size, 2, none⟩ = some (.slice A7 o.f2.length c7) := by rw [cell_of_row _ _ _ _ _ _ HX7.out]; rfl
            clear hA7 hO7 HA6 HB6 HX6 HW1 e2
            go_wp2_with fail
            have W2 := WriteAny HA7.out.2 o.f1 A7 c7 o.f2 (Kd.C_below HC7.out HB7.out) hc7 (St.ok_le HST.out.2 (by have := L50.out; omega))
            have HT2 := Aside0.mk (St.ok_write (n := n) HST.out.2 o.f1 o.f2)
            rw [wr_ok HX.out (by unfold St.down; rw [HST.out.1]; rfl)] at W2 HT2
            have HW2 := Aside0.mk W2; clear W2
            refine HW2.out.mono ?_
            rintro e w8 ⟨rfl, hA8, hO8⟩
            have HA8 := Aside0.mk (And.intro (AtS.only HA7.out.1 hO8 HNE.out) hA8)
            have HB8 := Aside0.mk (HB7.out.trans (hO8.low _ HG2.out.1 HG2.out.2 HB7.out.size))
            clear hA8 hO8 HA7 HB7 HX7 HW2 y1 y2
            go_wp2_with fail
            go_roundg k1
            case measure => omega
            case rel => exact ⟨j + 1, m + 1, ⟨put t.db o.f1.toNat o.f2, t.many + 1, t.cut, t.left - 1⟩, by first | (simp; done) | rw [em1], by first | (simp; done) | rw [ej], ⟨by have := HK.out; omega, by omega, by have := HK.out; omega⟩, HA8, ⟨HST.out.1, HT2.out⟩, HB8⟩
      · have c14 : decide ((j : Int) < (l1.length : Int)) = false := decide_eq_false (by omega)
        clear HK
        have em : (cutSt t.db a m).many = ((min m a : Nat) : Int) := rfl
        have EM := Aside0.mk em; clear em
        go_wp2_with fail
        refine (alive _).mono ?_; rintro e w6 ⟨rfl, hb6⟩
        have HA6 := Aside0.mk (show AtS w6 g b n (cutSt t.db a m) ∧ AtS w6 g2 b2 n t from ⟨AtS.below HA.out.1 hb6, AtS.below HA.out.2 hb6⟩)
        have HB6 := Aside0.mk (Aid.bthen HB.out hb6)
        clear hb6 HA HB
        go_wp2_with fail
        refine (Bytes HA6.out.1).mono ?_; rintro e w7 ⟨v7, rfl, hR7, hb7⟩
        obtain ⟨A7, c7, rfl, hc7, hC7⟩ := Kd.R_reads hR7
        have HC7 := Aside0.mk hC7
        have HA7 := Aside0.mk (show AtS w7 g b n (cutSt t.db a m) ∧ AtS w7 g2 b2 n t from ⟨AtS.below HA6.out.1 hb7, AtS.below HA6.out.2 hb7⟩)
        have HB7 := Aside0.mk (Aid.bthen HB6.out hb7)
        clear hR7 hC7 hb7 HA6 HB6
        go_wp2_with fail
        refine (Bytes HA7.out.2).mono ?_; rintro e w8 ⟨v8, rfl, hR8, hb8⟩
        obtain ⟨A8, c8, rfl, hc8, hC8⟩ := Kd.R_reads hR8
        have HC8 := Aside0.mk hC8
        have HC78 := Aside0.mk (Kd.C_below HC7.out hb8)
        have HA8 := Aside0.mk (show AtS w8 g b n (cutSt t.db a m) ∧ AtS w8 g2 b2 n t from ⟨AtS.below HA7.out.1 hb8, AtS.below HA7.out.2 hb8⟩)
        have HB8 := Aside0.mk (Aid.bthen HB7.out hb8)
        clear hR8 hC8 hb8 HA7 HB7 HC7
        go_wp2_with fail
        refine (SameN A7 t.db.length c7 t.db A8 t.db.length c8 t.db w8 rfl rfl HC78.out hc7 HC8.out hc8 (by have := At.len HA8.out.2; have := h2n; omega)).mono ?_
        rw [decide_eq_true rfl]
        rintro e w9 ⟨rfl, ⟨m9, rfl⟩⟩
        go_wp2_with fail
        rcases Nat.lt_trichotomy m a with hma | hma | hma
        · have HW := Aside0.mk (Writes (At.drewN HA8.out.1 m9))
          have HD := Aside0.mk (fun q => Down (At.drewN HA8.out.1 q))
          rw [EM.out, Nat.min_eq_left (show m ≤ a by omega)] at HW
          rw [show ((cutSt t.db a m).cut && decide ((cutSt t.db a m).left ≤ 0)) = decide (a ≤ m) from cut_down t.db a m, decide_eq_false (show ¬ a ≤ m by omega)] at HD
          have q1 : decide ((m : Int) < (a : Int)) = true := decide_eq_true (by omega)
          have q2 : decide ((a : Int) ≤ (m : Int)) = false := decide_eq_false (by omega)
          have q3 : min (m : Int) (a : Int) = (m : Int) := by omega
          have q4 : (m : Int) < (a : Int) := by omega
          have q5 : ¬ ((a : Int) < (m : Int)) := by omega
          have q6 : ¬ ((a : Int) ≤ (m : Int)) := by omega
          refine HW.out.mono ?_; rintro e w10 ⟨rfl, ⟨m10, rfl⟩⟩
          go_wp2_with fail
          refine (HD.out _).mono ?_; rintro e w11 ⟨rfl, ⟨m11, rfl⟩⟩
          go_wp2_with fail
          go_ret
          exact ⟨by first | rfl | (simp; done) | (simp; omega), pw_below_drewN HB8.out _⟩
        · obtain rfl : m = a := hma
          have HW := Aside0.mk (Writes (At.drewN HA8.out.1 m9))
          have HD := Aside0.mk (fun q => Down (At.drewN HA8.out.1 q))
          rw [EM.out, Nat.min_self] at HW
          rw [show ((cutSt t.db m m).cut && decide ((cutSt t.db m m).left ≤ 0)) = decide (m ≤ m) from cut_down t.db m m, decide_eq_true (Nat.le_refl m)] at HD
          have q1 : decide ((m : Int) < (m : Int)) = false := decide_eq_false (by omega)
          have q2 : decide ((m : Int) ≤ (m : Int)) = true := decide_eq_true (by omega)
          have q3 : min (m : Int) (m : Int) = (m : Int) := by omega
          have q4 : (m : Int) ≤ (m : Int) := by omega
          have q5 : ¬ ((m : Int) < (m : Int)) := by omega
          refine HW.out.mono ?_; rintro e w10 ⟨rfl, ⟨m10, rfl⟩⟩
          go_wp2_with fail
          refine (HD.out _).mono ?_; rintro e w11 ⟨rfl, ⟨m11, rfl⟩⟩
          go_wp2_with fail
          go_ret
          exact ⟨by first | rfl | (simp; done) | (simp; omega), pw_below_drewN HB8.out _⟩
        · have HW := Aside0.mk (Writes (At.drewN HA8.out.1 m9))
          have HD := Aside0.mk (fun q => Down (At.drewN HA8.out.1 q))
          rw [EM.out, Nat.min_eq_right (show a ≤ m by omega)] at HW
          rw [show ((cutSt t.db a m).cut && decide ((cutSt t.db a m).left ≤ 0)) = decide (a ≤ m) from cut_down t.db a m, decide_eq_true (show a ≤ m by omega)] at HD
          have q1 : decide ((m : Int) < (a : Int)) = false := decide_eq_false (by omega)
          have q2 : decide ((a : Int) ≤ (m : Int)) = true := decide_eq_true (by omega)
          have q3 : min (m : Int) (a : Int) = (a : Int) := by omega
          have q4 : (a : Int) < (m : Int) := by omega
          have q6 : ¬ ((m : Int) ≤ (a : Int)) := by omega
          have q5 : ¬ ((m : Int) < (a : Int)) := by omega
          refine HW.out.mono ?_; rintro e w10 ⟨rfl, ⟨m10, rfl⟩⟩
          go_wp2_with fail
          refine (HD.out _).mono ?_; rintro e w11 ⟨rfl, ⟨m11, rfl⟩⟩
          go_wp2_with fail
          go_ret
          exact ⟨by first | rfl | (simp; done) | (simp; omega), pw_below_drewN HB8.out _⟩
theorem redresslaw17_DiskCut.calls (A0 : Option Addr) (c0 : Nat) (l0 : List Int) (A1 : Option Addr) (c1 : Nat) (l1 : List S38) (a2 : Int) (r : Bool) (w : World) (hr0 : Kd.C (Kd.int .u8) w A0 l0.length l0) (hc0 : l0.length ≤ c0) (hr1 : Kd.C k38 w A1 l1.length l1) (hc1 : l1.length ≤ c1) (h : redresslaw17_DiskCut.f l0 l1 a2 = some r) :
    Calls Try.prog 6 #[.slice A0 l0.length c0, .slice A1 l1.length c1, .int .i64 a2] w fun e w' => e = .returned (.bool r) ∧ Below w.heap.size w w' := by
  unfold redresslaw17_DiskCut.f at h
  split at h
  case isFalse => cases h
  rename_i hh
  obtain rfl := Option.some.inj h
  exact DiskCut A0 c0 l0 A1 c1 l1 a2 w hr0 hc0 hr1 hc1 hh.1 hh.2
end Disk
end Go.Proofs.Ytphgoiepoojikaa

/- The law DiskOne: its walk. -/
import Derived.Test.YtphgoiepoojikaaK
namespace Go.Proofs.Ytphgoiepoojikaa
open Go.RowKit Go.Proofs.YtphgoiepoojikaaW.PrintWords Go.Proofs.YtphgoiepoojikaaW.PrintLast Go.Proofs.YtphgoiepoojikaaW.PrintMore Go.Proofs.Ytphgoiepoojikaa.PK
set_option linter.unusedVariables false
set_option linter.unusedSimpArgs false
set_option maxHeartbeats 4000000
set_option maxRecDepth 100000
namespace Disk

theorem still_skip {P : Program} {ops : Array Oper} {w : World} {Q : Act → Prop} {o : Oper} {rest : List Oper} {a : Act} (hw : Region.wanted o (yielded ops a.tmps) = false) (h : wpStill P ops w Q rest (a.put o.dst undef)) : wpStill P ops w Q (o :: rest) a :=
  wpStill_step (fun K hK => by rw [if_neg (by rw [hw]; decide)]; exact hK _ h)
theorem still_go {P : Program} {ops : Array Oper} {w : World} {Q : Act → Prop} {o : Oper} {rest : List Oper} {a : Act} (hw : Region.wanted o (yielded ops a.tmps) = true) (h : ∀ K : Act → Prop, (∀ a, wpStill P ops w Q rest a → K a) → o.still P a w K) : wpStill P ops w Q (o :: rest) a :=
  wpStill_step (fun K hK => by rw [if_pos hw]; exact h K hK)
/-- What one write makes of a disk: nothing, or one block. -/
theorem one_write {n : Nat} {l0 : List Int} (hl : l0.length = 16 * n) (c : Bool) (x : Int) (k : Int) (l : List Int) :
    ((((⟨l0, 0, c, x⟩ : St).write n k l).1 == 0) = false ∧ ((⟨l0, 0, c, x⟩ : St).write n k l).2.db = l0) ∨
    ((((⟨l0, 0, c, x⟩ : St).write n k l).1 == 0) = true ∧ (c && decide (x ≤ 0)) = false ∧ ∃ q : Nat, k = (q : Int) ∧ ∀ j : Nat, j < l0.length → rd ((⟨l0, 0, c, x⟩ : St).write n k l).2.db (j : Int) ≠ rd l0 (j : Int) → j / 16 = q) := by
  unfold St.write
  by_cases h1 : ¬ (0 ≤ k ∧ k < (n : Int)) ∨ 16 < l.length
  · rw [if_pos h1]; exact .inl ⟨rfl, rfl⟩
  · rw [if_neg h1]
    by_cases h2 : (⟨l0, 0, c, x⟩ : St).down = true
    · rw [if_pos h2]; exact .inl ⟨rfl, rfl⟩
    · rw [if_neg h2]
      have h3 : 0 ≤ k ∧ k < (n : Int) := Classical.byContradiction (fun hh => h1 (.inl hh))
      have h4 : l.length ≤ 16 := by
        rcases Nat.lt_or_ge 16 l.length with hh | hh
        · exact absurd (.inr hh) h1
        · exact hh
      refine .inr ⟨rfl, by simpa [St.down] using h2, k.toNat, by omega, fun j hj hne => ?_⟩
      apply Classical.byContradiction
      intro hq
      apply hne
      show rd (put l0 k.toNat l) (j : Int) = rd l0 (j : Int)
      have hp := put_get hl (show k.toNat < n by omega) h4 j
      rw [if_neg (by omega)] at hp
      unfold rd
      rw [Int.toNat_natCast, List.getD_eq_getElem?_getD, List.getD_eq_getElem?_getD, hp]

theorem DiskOne (A0 : Option Addr) (c0 : Nat) (l0 : List Int) (o : S38) (A1 : Option Addr) (c1 : Nat) (after : Int) (w : World) (hr0 : Kd.C (Kd.int .u8) w A0 l0.length l0) (hc0 : l0.length ≤ c0) (hr1 : Kd.C (Kd.int .u8) w A1 o.f2.length o.f2) (hc1 : o.f2.length ≤ c1) (ha : after ≤ 9223372036854775807) :
    Calls Try.prog 5 #[.slice A0 l0.length c0, .agg #[.int .i64 o.f0, .int .i64 o.f1, .slice A1 o.f2.length c1], .int .i64 after] w fun e w' => e = .returned (.bool true) ∧ Below w.heap.size w w' := by
  have HR := Aside0.mk hr0; clear hr0
  have HR1 := Aside0.mk hr1; clear hr1
  obtain ⟨w1, hw1⟩ : ∃ w1, w1 = (w.alloc (Obj.cells #[Value.int IntKind.i64 o.f0, Value.int IntKind.i64 o.f1, Value.slice A1 o.f2.length c1] 38)).alloc (Obj.cells #[Value.int IntKind.i64 o.f0, Value.int IntKind.i64 o.f1, Value.slice A1 o.f2.length c1] 38) := ⟨_, rfl⟩
  have HB1 := Aside0.mk (show Below w.heap.size w w1 by rw [hw1]; exact ((Below.refl _ _).alloc (Nat.le_refl _) _).alloc (by simp) _)
  have hx1 : w1.heap[w.heap.size]? = some (.cells #[Value.int IntKind.i64 o.f0, Value.int IntKind.i64 o.f1, Value.slice A1 o.f2.length c1] 38 (0, 0)) := by
    rw [hw1]
    exact (Below.heap_alloc _ _ _ (by simp)).trans (heap_alloc_last w _)
  have hy1 : w1.heap[w.heap.size + 1]? = some (.cells #[Value.int IntKind.i64 o.f0, Value.int IntKind.i64 o.f1, Value.slice A1 o.f2.length c1] 38 (0, 0)) := by
    rw [hw1, show w.heap.size + 1 = (w.alloc (Obj.cells #[Value.int IntKind.i64 o.f0, Value.int IntKind.i64 o.f1, Value.slice A1 o.f2.length c1] 38)).heap.size from by simp]
    exact heap_alloc_last _ _
  have HX1 := Aside0.mk hx1
  have HC1 := Aside0.mk (show Kd.C k38 w1 (some ⟨w.heap.size + 1, 0, none⟩) 1 [o] from ⟨rfl, by decide, fun _ => ⟨_, rfl, fun j p hp => by
    have hj : j = 0 := by
      have := (List.getElem?_eq_some_iff.1 hp).1
      simp at this; exact this
    subst hj
    obtain rfl : o = p := by simpa using hp
    refine ⟨[.int .i64 o.f0, .int .i64 o.f1, .slice A1 o.f2.length c1], rfl, k38_mk w1 o hc1 (Kd.C_below HR1.out HB1.out), fun i u hu => ?_⟩
    rw [Aid.addr_add, cell_of_row _ _ _ _ _ _ hy1]
    simpa using hu⟩⟩)
  have FW := Aside0.mk (Few A0 c0 l0 (some ⟨w.heap.size + 1, 0, none⟩) 1 1 [o] w1 rfl (Kd.C_below HR.out HB1.out) hc0 HC1.out (Nat.le_refl _) (by simp))
  clear HC1 hx1 hy1
  by_cases hrt : ¬ right l0
  · have RT := Aside0.mk (fun W => RightF l0 hrt W)
    clear hrt
    go_enter Try.func5, Try.ntmps5
    go_wp2_with fail
    rw [← hw1]
    refine FW.out.mono ?_; rintro e w2 ⟨r, rfl, _, hB⟩
    have HB := Aside0.mk (Aid.bthen HB1.out hB); clear hB
    cases r
    · go_wp2_with fail
      refine (alive _).mono ?_; rintro e w3 ⟨rfl, h2⟩
      have HB2 := Aside0.mk (Aid.bthen HB.out h2); clear h2
      go_wp2_with fail
      go_ret
      exact ⟨rfl, HB2.out⟩
    · go_wp2_with fail
      refine (RT.out _).mono ?_; rintro e w3 ⟨rfl, ⟨m2, rfl⟩⟩
      go_wp2_with fail
      refine (alive _).mono ?_; rintro e w4 ⟨rfl, h2⟩
      have HB2 := Aside0.mk (Aid.bthen (pw_below_drewN HB.out m2) h2); clear h2
      go_wp2_with fail
      go_ret
      exact ⟨rfl, HB2.out⟩
  have hrt : right l0 := Classical.byContradiction hrt
  have RT := Aside0.mk (fun W => RightT l0 hrt W)
  obtain ⟨n, hn⟩ : ∃ n, l0.length = 16 * n := ⟨l0.length / 16, by have := hrt.2.2; omega⟩
  have HN := Aside0.mk hn
  have h1n : 1 ≤ n := by have := hrt.1; omega
  have h2n : n ≤ 1024 := by have := hrt.2.1; omega
  obtain ⟨ad, rfl⟩ : ∃ ad, A0 = some ad := by
    obtain ⟨x, h, _⟩ := HR.out.2.2 (by have := hrt.1; omega)
    exact ⟨x, h⟩
  clear hn hrt
  go_enter Try.func5, Try.ntmps5
  go_wp2_with fail
  rw [← hw1]
  refine FW.out.mono ?_; rintro e w2 ⟨r, rfl, hfew, hB⟩
  have HB := Aside0.mk (Aid.bthen HB1.out hB)
  have HX2 := Aside0.mk ((hB.block _ (blk_lt HX1.out)).trans HX1.out); clear hB
  cases r
  · clear hfew
    go_wp2_with fail
    refine (alive _).mono ?_; rintro e w3 ⟨rfl, h2⟩
    have HB2 := Aside0.mk (Aid.bthen HB.out h2); clear h2
    go_wp2_with fail
    go_ret
    exact ⟨rfl, HB2.out⟩
  have L20 := Aside0.mk (hfew rfl).1
  clear hfew FW HB1 HX1 hw1
  go_wp2_with fail
  refine (RT.out _).mono ?_; rintro e w3 ⟨rfl, ⟨m2, rfl⟩⟩
  go_wp2_with fail
  refine (Load.ok ad c0 n l0 _ (Kd.C_below HR.out (pw_below_drewN HB.out m2)) hc0 HN.out h1n h2n).mono ?_
  rintro e w4 ⟨g, b, rfl, hA, hg, hb, hB3⟩
  have HX4 := Aside0.mk ((hB3.block _ (blk_lt HX2.out)).trans HX2.out)
  have HXN := Aside0.mk (show w.heap.size ≠ g ∧ w.heap.size ≠ b by have h1 : w.heap.size < w2.heap.size := blk_lt HX2.out; have h2 : w2.heap.size ≤ g := hg; have h3 : w2.heap.size ≤ b := hb; omega)
  have HA := Aside0.mk (show AtS w4 g b n ⟨l0, 0, false, 0⟩ from hA)
  have HB4 := Aside0.mk (Aid.bthen (pw_below_drewN HB.out m2) hB3)
  have HG := Aside0.mk (show w.heap.size ≤ g ∧ w.heap.size ≤ b from ⟨Nat.le_trans HB.out.size hg, Nat.le_trans HB.out.size hb⟩)
  clear hA hB3 hg hb HB HX2
  rcases (show (0 ≤ after) ∨ ¬ (0 ≤ after) from by by_cases h : 0 ≤ after; exact .inl h; exact .inr h) with hcut | hcut
  · have b0 : decide (0 ≤ after) = true := decide_eq_true hcut
    go_wp2_with fail
    refine (Cut HA.out after).mono ?_; rintro e w5 ⟨rfl, hA5, hO5⟩
    rw [show max (0 : Int) after = after by omega] at hA5
    have HA5 := Aside0.mk (show AtS w5 g b n ⟨l0, 0, true, after⟩ from hA5)
    have HX5 := Aside0.mk ((hO5.keep _ (blk_lt HX4.out) HXN.out.1 HXN.out.2).trans HX4.out)
    have HB5 := Aside0.mk (HB4.out.trans (hO5.low _ HG.out.1 HG.out.2 HB4.out.size))
    have HS5 := Aside0.mk (st0_ok l0 true after 1000000 hcut ha)
    clear hA5 hO5 HA HB4 HX4
    have x1 : w5.cell? ⟨w.heap.size, 1, none⟩ = some (.int .i64 o.f1) := by rw [cell_of_row _ _ _ _ _ _ HX5.out]; rfl
    have x2 : w5.cell? ⟨w.heap.size, 2, none⟩ = some (.slice A1 o.f2.length c1) := by rw [cell_of_row _ _ _ _ _ _ HX5.out]; rfl
    go_wp2_with fail
    refine (WriteAny HA5.out o.f1 A1 c1 o.f2 (Kd.C_below HR1.out HB5.out) hc1 HS5.out).mono ?_
    rintro e w6 ⟨rfl, hA6, hO6⟩
    have OW := one_write HN.out true after o.f1 o.f2
    obtain ⟨E, hE⟩ : ∃ E, E = ((⟨l0, 0, true, after⟩ : St).write n o.f1 o.f2).1 := ⟨_, rfl⟩
    obtain ⟨s6, hs6⟩ : ∃ s6, s6 = ((⟨l0, 0, true, after⟩ : St).write n o.f1 o.f2).2 := ⟨_, rfl⟩
    rw [← hE, ← hs6] at OW
    rw [← hs6] at hA6
    rw [← hE]
    have HA6 := Aside0.mk hA6
    have HX6 := Aside0.mk ((hO6.keep _ (blk_lt HX5.out) HXN.out.1 HXN.out.2).trans HX5.out)
    have HB6 := Aside0.mk (HB5.out.trans (hO6.low _ HG.out.1 HG.out.2 HB5.out.size))
    clear hA6 hO6 HA5 HB5 HX5 hE hs6 x1 x2
    go_wp2_with fail
    refine (Bytes HA6.out).mono ?_; rintro e w7 ⟨v7, rfl, hR7, hb7⟩
    obtain ⟨A7, c7, rfl, hc7, hC7⟩ := Kd.R_reads hR7
    have hl7 : s6.db.length = l0.length := (At.len HA6.out).trans HN.out.symm
    rw [hl7] at hC7 hc7 ⊢
    have HC7 := Aside0.mk hC7
    have HX7 := Aside0.mk ((hb7.block _ (blk_lt HX6.out)).trans HX6.out)
    have HB7 := Aside0.mk (Aid.bthen HB6.out hb7)
    have HL7 := Aside0.mk hl7
    clear hR7 hC7 hb7 hl7 HA6 HB6 HX6
    rcases OW with ⟨e0, hdb0⟩ | ⟨e0, hdn, q, hq0, hne0⟩
    · have HDB := Aside0.mk hdb0; clear hdb0
      go_wp2_with fail
      go_loopg [63] (l0.length + 1) (fun kq v63 w' => ∃ (j : Nat), v63 = .int .i64 (j : Int) ∧ Aside0 (kq + j = l0.length + 1 ∧ j ≤ l0.length) ∧ Aside0 (Kd.C (Kd.int .u8) w' A7 l0.length s6.db) ∧ Aside0 (w'.heap[w.heap.size]? = some (.cells #[Value.int IntKind.i64 o.f0, Value.int IntKind.i64 o.f1, Value.slice A1 o.f2.length c1] 38 (0, 0))) ∧ Aside0 (Below w.heap.size w w'))
      case atStart => exact ⟨0, rfl, ⟨by omega, by omega⟩, HC7, HX7, HB7⟩
      case round =>
        clear HC7 HX7 HB7
        obtain ⟨j, rfl, HK, HC, HX, HB⟩ := hrel
        cases gk with
        | zero => exact absurd HK.out (by omega)
        | succ k1 =>
          by_cases hj : j < l0.length
          · have c14 : decide ((j : Int) < (l0.length : Int)) = true := decide_eq_true (by omega)
            have p0 : (0 : Int) ≤ (j : Int) := by omega
            have q0 : (j : Int) < (l0.length : Int) := by omega
            obtain ⟨ad7, e7, hx7⟩ := Kd.at_int HC.out (j : Int) p0 (by have := HL7.out; omega)
            cases e7
            obtain ⟨ad0, e00, hx0⟩ := Kd.at_int (Kd.C_below HR.out HB.out) (j : Int) p0 q0
            cases e00
            simp only [Int.toNat_natCast] at hx7 hx0
            have y1 : wr.cell? ⟨w.heap.size, 1, none⟩ = some (.int .i64 o.f1) := by rw [cell_of_row _ _ _ _ _ _ HX.out]; rfl
            have ej : IntKind.i64.wrap ((j : Int) + 1) = ((j + 1 : Nat) : Int) := by rw [IntKind.wrap_i64]; have := L20.out; omega
            have heq : (rd s6.db (j : Int) != rd l0 (j : Int)) = false := by rw [HDB.out]; simp
            go_wp2_with fail
            go_quiet (fail)
            have HCd := Aside0.mk (Kd.C_drewN HC.out nq)
            have HXd := Aside0.mk (show (wr.drewN nq).heap[w.heap.size]? = _ from HX.out)
            have HBd := Aside0.mk (pw_below_drewN HB.out nq)
            go_wp2_with fail
            go_roundg k1
            case measure => omega
            case rel => exact ⟨j + 1, by first | (simp; done) | rw [ej], ⟨by have := HK.out; omega, by omega⟩, HCd, HXd, HBd⟩
          · have c14 : decide ((j : Int) < (l0.length : Int)) = false := decide_eq_false (by omega)
            clear HK
            go_wp2_with fail
            refine (alive _).mono ?_; rintro e w9 ⟨rfl, h9⟩
            have HB9 := Aside0.mk (Aid.bthen HB.out h9); clear h9
            go_wp2_with fail
            go_ret
            exact ⟨rfl, HB9.out⟩
    · have HQ0 := Aside0.mk hq0; have HNE0 := Aside0.mk hne0; clear hq0 hne0
      have hz : (after == 0) = false := by
        have : ¬ after ≤ 0 := by simpa using hdn
        simp; omega
      go_wp2_with fail
      go_loopg [63] (l0.length + 1) (fun kq v63 w' => ∃ (j : Nat), v63 = .int .i64 (j : Int) ∧ Aside0 (kq + j = l0.length + 1 ∧ j ≤ l0.length) ∧ Aside0 (Kd.C (Kd.int .u8) w' A7 l0.length s6.db) ∧ Aside0 (w'.heap[w.heap.size]? = some (.cells #[Value.int IntKind.i64 o.f0, Value.int IntKind.i64 o.f1, Value.slice A1 o.f2.length c1] 38 (0, 0))) ∧ Aside0 (Below w.heap.size w w'))
      case atStart => exact ⟨0, rfl, ⟨by omega, by omega⟩, HC7, HX7, HB7⟩
      case round =>
        clear HC7 HX7 HB7
        obtain ⟨j, rfl, HK, HC, HX, HB⟩ := hrel
        cases gk with
        | zero => exact absurd HK.out (by omega)
        | succ k1 =>
          by_cases hj : j < l0.length
          · have c14 : decide ((j : Int) < (l0.length : Int)) = true := decide_eq_true (by omega)
            have p0 : (0 : Int) ≤ (j : Int) := by omega
            have q0 : (j : Int) < (l0.length : Int) := by omega
            obtain ⟨ad7, e7, hx7⟩ := Kd.at_int HC.out (j : Int) p0 (by have := HL7.out; omega)
            cases e7
            obtain ⟨ad0, e00, hx0⟩ := Kd.at_int (Kd.C_below HR.out HB.out) (j : Int) p0 q0
            cases e00
            simp only [Int.toNat_natCast] at hx7 hx0
            have y1 : wr.cell? ⟨w.heap.size, 1, none⟩ = some (.int .i64 o.f1) := by rw [cell_of_row _ _ _ _ _ _ HX.out]; rfl
            have ej : IntKind.i64.wrap ((j : Int) + 1) = ((j + 1 : Nat) : Int) := by rw [IntKind.wrap_i64]; have := L20.out; omega
            by_cases hd : rd s6.db (j : Int) = rd l0 (j : Int)
            · have heq : (rd s6.db (j : Int) != rd l0 (j : Int)) = false := by rw [hd]; simp
              go_wp2_with fail
              go_quiet (fail)
              have HCd := Aside0.mk (Kd.C_drewN HC.out nq)
              have HXd := Aside0.mk (show (wr.drewN nq).heap[w.heap.size]? = _ from HX.out)
              have HBd := Aside0.mk (pw_below_drewN HB.out nq)
              go_wp2_with fail
              go_roundg k1
              case measure => omega
              case rel => exact ⟨j + 1, by first | (simp; done) | rw [ej], ⟨by have := HK.out; omega, by omega⟩, HCd, HXd, HBd⟩
            · have heq : (rd s6.db (j : Int) != rd l0 (j : Int)) = true := by simpa using hd
              have hjq := Aside0.mk (HNE0.out j hj hd)
              have h16 : IntKind.i64.wrap ((j : Int) / 16) = o.f1 := by rw [IntKind.wrap_i64]; have := L20.out; have := HQ0.out; have := hjq.out; omega
              have h17 : (j : Int) / 16 = o.f1 := by have := HQ0.out; have := hjq.out; omega
              have h18 : wrap64 o.f1 = o.f1 := by unfold wrap64; have := L20.out; have := HQ0.out; have := hjq.out; omega
              go_wp2_with fail
              go_quiet (fail)
              have HCd := Aside0.mk (Kd.C_drewN HC.out nq)
              have HXd := Aside0.mk (show (wr.drewN nq).heap[w.heap.size]? = _ from HX.out)
              have HBd := Aside0.mk (pw_below_drewN HB.out nq)
              go_wp2_with fail
              go_roundg k1
              case measure => omega
              case rel => exact ⟨j + 1, by first | (simp; done) | rw [ej], ⟨by have := HK.out; omega, by omega⟩, HCd, HXd, HBd⟩
          · have c14 : decide ((j : Int) < (l0.length : Int)) = false := decide_eq_false (by omega)
            clear HK
            go_wp2_with fail
            refine (alive _).mono ?_; rintro e w9 ⟨rfl, h9⟩
            have HB9 := Aside0.mk (Aid.bthen HB.out h9); clear h9
            go_wp2_with fail
            go_ret
            exact ⟨rfl, HB9.out⟩
  · have b0 : decide (0 ≤ after) = false := decide_eq_false hcut
    have HS5 := Aside0.mk (st0_ok l0 false 0 1000000 (by omega) (by omega))
    have HA5 := HA; have HB5 := HB4; have HX5 := HX4
    obtain ⟨w5, hw5⟩ : ∃ w5, w5 = w4 := ⟨_, rfl⟩
    rw [← hw5] at HA5 HB5 HX5 ⊢
    clear HA HB4 HX4 hw5
    have x1 : w5.cell? ⟨w.heap.size, 1, none⟩ = some (.int .i64 o.f1) := by rw [cell_of_row _ _ _ _ _ _ HX5.out]; rfl
    have x2 : w5.cell? ⟨w.heap.size, 2, none⟩ = some (.slice A1 o.f2.length c1) := by rw [cell_of_row _ _ _ _ _ _ HX5.out]; rfl
    go_wp2_with fail
    refine (WriteAny HA5.out o.f1 A1 c1 o.f2 (Kd.C_below HR1.out HB5.out) hc1 HS5.out).mono ?_
    rintro e w6 ⟨rfl, hA6, hO6⟩
    have OW := one_write HN.out false 0 o.f1 o.f2
    obtain ⟨E, hE⟩ : ∃ E, E = ((⟨l0, 0, false, 0⟩ : St).write n o.f1 o.f2).1 := ⟨_, rfl⟩
    obtain ⟨s6, hs6⟩ : ∃ s6, s6 = ((⟨l0, 0, false, 0⟩ : St).write n o.f1 o.f2).2 := ⟨_, rfl⟩
    rw [← hE, ← hs6] at OW
    rw [← hs6] at hA6
    rw [← hE]
    have HA6 := Aside0.mk hA6
    have HX6 := Aside0.mk ((hO6.keep _ (blk_lt HX5.out) HXN.out.1 HXN.out.2).trans HX5.out)
    have HB6 := Aside0.mk (HB5.out.trans (hO6.low _ HG.out.1 HG.out.2 HB5.out.size))
    clear hA6 hO6 HA5 HB5 HX5 hE hs6 x1 x2
    go_wp2_with fail
    refine (Bytes HA6.out).mono ?_; rintro e w7 ⟨v7, rfl, hR7, hb7⟩
    obtain ⟨A7, c7, rfl, hc7, hC7⟩ := Kd.R_reads hR7
    have hl7 : s6.db.length = l0.length := (At.len HA6.out).trans HN.out.symm
    rw [hl7] at hC7 hc7 ⊢
    have HC7 := Aside0.mk hC7
    have HX7 := Aside0.mk ((hb7.block _ (blk_lt HX6.out)).trans HX6.out)
    have HB7 := Aside0.mk (Aid.bthen HB6.out hb7)
    have HL7 := Aside0.mk hl7
    clear hR7 hC7 hb7 hl7 HA6 HB6 HX6
    rcases OW with ⟨e0, hdb0⟩ | ⟨e0, hdn, q, hq0, hne0⟩
    · have HDB := Aside0.mk hdb0; clear hdb0
      go_wp2_with fail
      go_loopg [63] (l0.length + 1) (fun kq v63 w' => ∃ (j : Nat), v63 = .int .i64 (j : Int) ∧ Aside0 (kq + j = l0.length + 1 ∧ j ≤ l0.length) ∧ Aside0 (Kd.C (Kd.int .u8) w' A7 l0.length s6.db) ∧ Aside0 (w'.heap[w.heap.size]? = some (.cells #[Value.int IntKind.i64 o.f0, Value.int IntKind.i64 o.f1, Value.slice A1 o.f2.length c1] 38 (0, 0))) ∧ Aside0 (Below w.heap.size w w'))
      case atStart => exact ⟨0, rfl, ⟨by omega, by omega⟩, HC7, HX7, HB7⟩
      case round =>
        clear HC7 HX7 HB7
        obtain ⟨j, rfl, HK, HC, HX, HB⟩ := hrel
        cases gk with
        | zero => exact absurd HK.out (by omega)
        | succ k1 =>
          by_cases hj : j < l0.length
          · have c14 : decide ((j : Int) < (l0.length : Int)) = true := decide_eq_true (by omega)
            have p0 : (0 : Int) ≤ (j : Int) := by omega
            have q0 : (j : Int) < (l0.length : Int) := by omega
            obtain ⟨ad7, e7, hx7⟩ := Kd.at_int HC.out (j : Int) p0 (by have := HL7.out; omega)
            cases e7
            obtain ⟨ad0, e00, hx0⟩ := Kd.at_int (Kd.C_below HR.out HB.out) (j : Int) p0 q0
            cases e00
            simp only [Int.toNat_natCast] at hx7 hx0
            have y1 : wr.cell? ⟨w.heap.size, 1, none⟩ = some (.int .i64 o.f1) := by rw [cell_of_row _ _ _ _ _ _ HX.out]; rfl
            have ej : IntKind.i64.wrap ((j : Int) + 1) = ((j + 1 : Nat) : Int) := by rw [IntKind.wrap_i64]; have := L20.out; omega
            have heq : (rd s6.db (j : Int) != rd l0 (j : Int)) = false := by rw [HDB.out]; simp
            go_wp2_with fail
            go_quiet (fail)
            have HCd := Aside0.mk (Kd.C_drewN HC.out nq)
            have HXd := Aside0.mk (show (wr.drewN nq).heap[w.heap.size]? = _ from HX.out)
            have HBd := Aside0.mk (pw_below_drewN HB.out nq)
            go_wp2_with fail
            go_roundg k1
            case measure => omega
            case rel => exact ⟨j + 1, by first | (simp; done) | rw [ej], ⟨by have := HK.out; omega, by omega⟩, HCd, HXd, HBd⟩
          · have c14 : decide ((j : Int) < (l0.length : Int)) = false := decide_eq_false (by omega)
            clear HK
            go_wp2_with fail
            refine (alive _).mono ?_; rintro e w9 ⟨rfl, h9⟩
            have HB9 := Aside0.mk (Aid.bthen HB.out h9); clear h9
            go_wp2_with fail
            go_ret
            exact ⟨rfl, HB9.out⟩
    · have HQ0 := Aside0.mk hq0; have HNE0 := Aside0.mk hne0; clear hq0 hne0
      have hz : (after == 0) = false := by
        simp; omega
      go_wp2_with fail
      go_loopg [63] (l0.length + 1) (fun kq v63 w' => ∃ (j : Nat), v63 = .int .i64 (j : Int) ∧ Aside0 (kq + j = l0.length + 1 ∧ j ≤ l0.length) ∧ Aside0 (Kd.C (Kd.int .u8) w' A7 l0.length s6.db) ∧ Aside0 (w'.heap[w.heap.size]? = some (.cells #[Value.int IntKind.i64 o.f0, Value.int IntKind.i64 o.f1, Value.slice A1 o.f2.length c1] 38 (0, 0))) ∧ Aside0 (Below w.heap.size w w'))
      case atStart => exact ⟨0, rfl, ⟨by omega, by omega⟩, HC7, HX7, HB7⟩
      case round =>
        clear HC7 HX7 HB7
        obtain ⟨j, rfl, HK, HC, HX, HB⟩ := hrel
        cases gk with
        | zero => exact absurd HK.out (by omega)
        | succ k1 =>
          by_cases hj : j < l0.length
          · have c14 : decide ((j : Int) < (l0.length : Int)) = true := decide_eq_true (by omega)
            have p0 : (0 : Int) ≤ (j : Int) := by omega
            have q0 : (j : Int) < (l0.length : Int) := by omega
            obtain ⟨ad7, e7, hx7⟩ := Kd.at_int HC.out (j : Int) p0 (by have := HL7.out; omega)
            cases e7
            obtain ⟨ad0, e00, hx0⟩ := Kd.at_int (Kd.C_below HR.out HB.out) (j : Int) p0 q0
            cases e00
            simp only [Int.toNat_natCast] at hx7 hx0
            have y1 : wr.cell? ⟨w.heap.size, 1, none⟩ = some (.int .i64 o.f1) := by rw [cell_of_row _ _ _ _ _ _ HX.out]; rfl
            have ej : IntKind.i64.wrap ((j : Int) + 1) = ((j + 1 : Nat) : Int) := by rw [IntKind.wrap_i64]; have := L20.out; omega
            by_cases hd : rd s6.db (j : Int) = rd l0 (j : Int)
            · have heq : (rd s6.db (j : Int) != rd l0 (j : Int)) = false := by rw [hd]; simp
              go_wp2_with fail
              go_quiet (fail)
              have HCd := Aside0.mk (Kd.C_drewN HC.out nq)
              have HXd := Aside0.mk (show (wr.drewN nq).heap[w.heap.size]? = _ from HX.out)
              have HBd := Aside0.mk (pw_below_drewN HB.out nq)
              go_wp2_with fail
              go_roundg k1
              case measure => omega
              case rel => exact ⟨j + 1, by first | (simp; done) | rw [ej], ⟨by have := HK.out; omega, by omega⟩, HCd, HXd, HBd⟩
            · have heq : (rd s6.db (j : Int) != rd l0 (j : Int)) = true := by simpa using hd
              have hjq := Aside0.mk (HNE0.out j hj hd)
              have h16 : IntKind.i64.wrap ((j : Int) / 16) = o.f1 := by rw [IntKind.wrap_i64]; have := L20.out; have := HQ0.out; have := hjq.out; omega
              have h17 : (j : Int) / 16 = o.f1 := by have := HQ0.out; have := hjq.out; omega
              have h18 : wrap64 o.f1 = o.f1 := by unfold wrap64; have := L20.out; have := HQ0.out; have := hjq.out; omega
              go_wp2_with fail
              go_quiet (fail)
              have HCd := Aside0.mk (Kd.C_drewN HC.out nq)
              have HXd := Aside0.mk (show (wr.drewN nq).heap[w.heap.size]? = _ from HX.out)
              have HBd := Aside0.mk (pw_below_drewN HB.out nq)
              go_wp2_with fail
              go_roundg k1
              case measure => omega
              case rel => exact ⟨j + 1, by first | (simp; done) | rw [ej], ⟨by have := HK.out; omega, by omega⟩, HCd, HXd, HBd⟩
          · have c14 : decide ((j : Int) < (l0.length : Int)) = false := decide_eq_false (by omega)
            clear HK
            go_wp2_with fail
            refine (alive _).mono ?_; rintro e w9 ⟨rfl, h9⟩
            have HB9 := Aside0.mk (Aid.bthen HB.out h9); clear h9
            go_wp2_with fail
            go_ret
            exact ⟨rfl, HB9.out⟩
end Disk
end Go.Proofs.Ytphgoiepoojikaa
